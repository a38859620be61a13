import Derived.Test.YtjpmdkgonlmddaaGreatDoorAbI
import GoSem.ClaimChange
import GoSem.ClaimJoined
import Derived.ChangeSame
import Derived.WideKeyArgs
import Derived.ProofKit
set_option linter.unusedVariables false
namespace Go.Ab
open Go.ChangeShapes Go.WideShapes Go.ChangeAt Go.RowKit
mutual
def bulk{H:Type}:DataW H→Nat
 |.lit (.string bytes)=>bytes.length+1
 |.lit _=>1
 |.nil=>1
 |.ptr d=>bulk d+1
 |.slice elems spare=>ZeJ elems+ZeJ spare+1
 |.agg parts=>ZeJ parts+1
 |.iface _ d=>bulk d+1
 |.map entries=>Zgm entries+1
 |.held _=>1
def ZeJ{H:Type}:List (DataW H)→Nat
 | []=>0
 |d::r=>bulk d+ZeJ r
def Zgm{H:Type}:List (Lit×DataW H)→Nat
 | []=>0
 |x::r=>ZmF x+Zgm r
def ZmF{H:Type}:Lit×DataW H→Nat
 |(.string bytes,d)=>bytes.length+bulk d+1
 |(_,d)=>bulk d+1
end
theorem Zru{H:Type}(d:DataW H):1≤bulk d:=by
 cases d with
 |lit l=>cases l<;>simp[bulk]
 |_=>simp[bulk]
theorem Zqk{H:Type}{d:DataW H}{l:List (DataW H)}(h:d∈l):bulk d≤ZeJ l:=by
 induction l with
 |nil=>cases h
 |cons x r ih=>
  simp only[ZeJ]
  grind
theorem Zrv{H:Type}(l:List (DataW H)):l.length≤ZeJ l:=by
 induction l with
 |nil=>simp
 |cons x r ih=>have:=Zru x;simp only[ZeJ,Yf];omega
theorem ZnI{α β:Type}{f:α→Option β}:∀{l:List α} {r:List β},l.mapM f=some r→l.length=r.length∧∀(i:Nat) x,l[i]? =some x→∃y,r[i]? =some y∧f x=some y:=by
 intro l
 induction l with
 |nil=>simp
 |cons a l ih=>
  intro r h;rw[List.mapM_cons]at h
  cases hf:f a with
  |none=>simp_all
  |some y=>
   rw[hf]at h
   cases hl:l.mapM f with
   |none=>simp_all
   |some s=>
    grind
def Zjt(P:Program):List Field→Nat→Nat→Bool
 | [],o,tot=>o==tot
 |f::r,o,tot=>f.offset==o&&Zjt P r (o+P.cellsOf f.type) tot
def okT(P:Program):Nat→TypeId→Bool
 |0,_=>false
 |n+1,t=>match P.underlying t with
  |some .bool=>true
  |some (.int _)=>true
  |some .string=>true
  |some (.slice e)=>okT P n e&&decide (0<P.cellsOf e)
  |some (.struct fs)=>Zjt P fs.toList 0 (P.cellsOf t)&&fs.toList.all fun f=>okT P n f.type
  |_=>false
def WTF(R:TypeId→List AV→Prop):List Field→List AV→Prop
 | [],cells=>cells=[]
 |f::r,cells=>∃a b,cells=a++b∧R f.type a∧WTF R r b
def WT(P:Program)(B:Nat):Nat→TypeId→List AV→Prop
 |0,_,_=>False
 |n+1,t,cells=>match P.underlying t with
  |some .bool=>∃b,cells=[.bool b]
  |some (.int k)=>∃m,cells=[.int k m]∧(Lit.int k m).wf=true
  |some .string=>∃l,cells=[.str l]∧l.length≤B
  |some (.slice e)=>∃rows,cells=[.sl rows]∧rows.length≤B∧∀r,r∈rows→WT P B n e r
  |some (.struct fs)=>WTF (WT P B n) fs.toList cells
  |_=>False
theorem ZsR{R:TypeId→List AV→Prop}(hR:∀t cs,R t cs→∀x,x∈cs→Zee x=true):∀(fs:List Field) (cs:List AV),WTF R fs cs→∀x,x∈cs→Zee x=true:=by
 intro fs
 induction fs with
 |nil=>intro cs h x hx;simp only[WTF]at h;simp_all
 |cons f r ih=>
  rintro cs ⟨a,b,rfl,h1,h2⟩ x hx
  grind
theorem Zrx{P:Program}{B:Nat}:∀(n:Nat) (t:TypeId) (cs:List AV),WT P B n t cs→∀x,x∈cs→Zee x=true:=by
 intro n
 induction n with
 |zero=>intro t cs h;exact h.elim
 |succ n ih=>
  intro t cs h x hx;unfold WT at h;split at h
  ·obtain⟨b,rfl⟩:=h;simp at hx;subst hx;rfl
  ·obtain⟨m,rfl,_⟩:=h;simp at hx;subst hx;rfl
  ·obtain⟨l,rfl,_⟩:=h;simp at hx;subst hx;rfl
  ·obtain⟨rows,rfl,_⟩:=h;simp at hx;subst hx;rfl
  ·exact ZsR ih _ _ h x hx
  simp_all
theorem ZsQ{P:Program}{B n:Nat}(t:TypeId)(cs:List AV)(h:WT P B n t cs):∀x,x∈cs→Zee x=true:=Zrx n t cs h
section
variable {H:Type}{enc:TypeId×Value→H}{P:Program}{w:World}
theorem IRepL.one{S:Nat→Prop}{x:AV}{v:Value}(h:IRep S w x v):IRepL S w [x] [v]:=
 ⟨rfl,fun j y u hy hu=>by
  grind⟩
theorem IRepL.app{S:Nat→Prop}{as bs:List AV}{us vs:List Value}(ha:IRepL S w as us)(hb:IRepL S w bs vs):IRepL S w (as++bs) (us++vs):=by
 refine⟨by simp[ha.1,hb.1],fun j x v hx hv=>?_⟩
 by_cases hj:j<as.length
 ·rw[Yn hj]at hx
  rw[Yn (by have:=ha.1;omega)]at hv
  exact ha.2 j x v hx hv
 ·rw[Yc (by omega)]at hx
  rw[Yc (by have:=ha.1;omega)]at hv
  refine hb.2 (j-as.length) x v hx ?_
  rw[ha.1];exact hv
theorem ZmE{b:Nat}{a:Addr}{n:Nat}{cs:List Value}(h:w.cells? b a n=some cs):cs.length=n∧∀j,j<n→∃v,cs[j]? =some v∧w.cell? (a.add j)=some v:=by
 unfold World.cells? at h;split at h
 ·obtain⟨h1,h2⟩:=ZnI h
  refine⟨by simp_all,fun j hj=>?_⟩
  exact h2 j j (by simp_all)
 ·cases h
theorem Zp1{S:Nat→Prop}{fuel n B:Nat}(ih:∀(t:TypeId) (cs:List Value) (d:DataW H) (ps:List MemPlace),okT P n t=true→DataW.trod enc P w 0 (fun _=>true) true fuel t cs=some (d,ps)→bulk d≤B→
 ∃cells,WT P B n t cells∧IRepL S w cells cs):
 ∀(fs:List Field) (o tot:Nat) (cs:List Value) (xs:List (DataW H×List MemPlace)),Zjt P fs o tot=true→(fs.all fun f=>okT P n f.type)=true→cs.length=tot→o≤tot→
  (fs.mapM fun f=>DataW.trod enc P w 0 (fun _=>true) true fuel f.type ((cs.drop f.offset).take (P.cellsOf f.type)))=some xs→ZeJ (xs.map (·.1))≤B→
  ∃cells,WTF (WT P B n) fs cells∧IRepL S w cells (cs.drop o):=by
 intro fs
 induction fs with
 |nil=>
  intro o tot cs xs hc _ hl ho h _;simp only[Zjt,Vo]at hc
  refine⟨[],rfl,?_⟩
  rw[List.drop_eq_nil_of_le (by omega)]
  exact⟨rfl,fun j x v hx=>by simp⟩
 |cons f r ihf=>
  intro o tot cs xs hc hok hl ho h hb;simp only[Zjt,Y8,Vo]at hc;simp only[List.all_cons,Y8]at hok;rw[List.mapM_cons]at h
  cases h1:DataW.trod enc P w 0 (fun _=>true) true fuel f.type ((cs.drop f.offset).take (P.cellsOf f.type))with
  |none=>simp_all
  |some x=>
   rw[h1]at h
   cases h2:(r.mapM fun f=>DataW.trod enc P w 0 (fun _=>true) true fuel f.type ((cs.drop f.offset).take (P.cellsOf f.type)))with
   |none=>simp_all
   |some ys=>
    rw[h2]at h
    have h:some (x::ys)=some xs:=h
    injection h with h;subst h
    simp only[Yp,ZeJ]at hb
    have htot:∀(r:List Field) (o:Nat),Zjt P r o tot=true→o≤tot:=by
     intro r
     induction r with
     |nil=>intro o h;simp only[Zjt,Vo]at h;omega
     |cons g r ih=>intro o h;simp only[Zjt,Y8,Vo]at h;grind
    have hle:=htot r _ hc.2
    obtain⟨c1,w1,r1⟩:=ih f.type _ x.1 x.2 hok.1 h1 (by omega)
    obtain⟨c2,w2,r2⟩:=ihf (o+P.cellsOf f.type) tot cs ys hc.2 hok.2 hl hle h2 (by omega)
    refine⟨c1++c2,⟨c1,c2,rfl,w1,w2⟩,?_⟩
    have:cs.drop o=(cs.drop o).take (P.cellsOf f.type)++cs.drop (o+P.cellsOf f.type):=by
     rw[←Va,WV]
    rw[this];rw[hc.1]at r1;exact r1.app r2
theorem Zsd{B:Nat}(hB:B≤LIM):∀(n:Nat) (t:TypeId) (fuel:Nat) (cs:List Value) (d:DataW H) (ps:List MemPlace),okT P n t=true→
 DataW.trod enc P w 0 (fun _=>true) true fuel t cs=some (d,ps)→bulk d≤B→∃cells,WT P B n t cells∧IRepL (fun b=>b<w.heap.size) w cells cs:=by
 intro n
 induction n with
 |zero=>intro t fuel cs d ps h;simp[okT]at h
 |succ n ih=>
  intro t fuel cs d ps hok h hb
  cases fuel with
  |zero=>simp[DataW.trod]at h
  |succ fuel=>
   unfold okT at hok;unfold WT;unfold DataW.trod at h
   cases hu:P.underlying t with
   |none=>rw[hu]at hok;cases hok
   |some u=>
    rw[hu]at hok h
    cases u with
    |bool=>
     simp only at h⊢
     split at h<;>first|(rename_i e;cases e;done)|cases h|skip
     all_goals first
      |(rename_i b e;exact⟨[.bool b],⟨b,rfl⟩,.one (.bool b)⟩)
      |(exfalso;simp_all;done)
    |int k=>
     simp only at h⊢;split at h
     all_goals first
      |(
       rename_i k' m e;split at h
       ·rename_i hc
        obtain⟨rfl,hw⟩:=hc
        injection e with e
        injection e with e
        subst e;exact⟨[.int k m],⟨m,rfl,hw⟩,.one (.int k m)⟩
       ·cases h)
      |(exfalso;simp_all;done)
    |string=>
     simp only at h⊢;split at h
     all_goals first
      |(
       rename_i s e;split at h
       ·injection h with h;injection h with h1 h2
        subst h1;simp only[bulk]at hb
        exact⟨[.str s.data.toList],⟨_,rfl,by omega⟩,.one (.str s)⟩
       ·cases h)
      |(exfalso;simp_all;done)
    |slice e=>
     simp only[Y8,Ym]at hok;simp only at h⊢;split at h
     all_goals try (rename_i q;cases q;done)
     all_goals try (cases h;done)
     ·injection h with h;injection h with h1 h2;subst h1
      exact⟨[.sl []],⟨[],rfl,Yv _,fun r hr=>by cases hr⟩,.one .snil⟩
     rename_i e' a len cap hue;cases hue;split at h
     ·rename_i hbd
      cases hm:((List.range len).mapM fun i=>(w.cells? 0 (a.add (i*P.cellsOf e)) (P.cellsOf e)).bind (DataW.trod enc P w 0 (fun _=>true) true fuel e))with
      |none=>rw[hm]at h;cases h
      |some elems=>
       rw[hm]at h;simp only[Y0,Yh]at h;rw[Ye]at h
       obtain⟨rest,_,h⟩:=h
       injection h with h1 h2
       subst h1;simp only[bulk]at hb
       obtain⟨hlen,hget⟩:=ZnI hm
       simp only[List.length_range]at hlen
       have hbl:=Zrv (elems.map (·.1))
       rw[Ya]at hbl
       have hel:∀i,i<len→∃cells cs,WT P B n e cells∧w.cells? 0 (a.add (i*P.cellsOf e)) (P.cellsOf e)=some cs∧IRepL (fun b=>b<w.heap.size) w cells cs:=by
        intro i hi
        obtain⟨y,hy,hf⟩:=hget i i (by simp[List.getElem?_range hi])
        cases hc:w.cells? 0 (a.add (i*P.cellsOf e)) (P.cellsOf e)with
        |none=>rw[hc]at hf;cases hf
        |some cs=>
         rw[hc]at hf
         have hf:DataW.trod enc P w 0 (fun _=>true) true fuel e cs=some (y.1,y.2):=hf
         have hmem:y.1∈elems.map (·.1):=YK.2 ⟨y,YA hy,rfl⟩
         have:=Zqk hmem
         obtain⟨cells,h1,h2⟩:=ih e fuel cs y.1 y.2 hok.1 hf (by omega)
         exact⟨cells,cs,h1,rfl,h2⟩
       have hex:∃(g:Nat→List AV) (vals:Nat→List Value),∀i,i<len→WT P B n e (g i)∧w.cells? 0 (a.add (i*P.cellsOf e)) (P.cellsOf e)=some (vals i)∧IRepL (fun b=>b<w.heap.size) w (g i) (vals i):=by
        refine⟨fun i=>if hi:i<len then(hel i hi).choose else [],fun i=>if hi:i<len then(hel i hi).choose_spec.choose else [],fun i hi=>?_⟩
        simp only[hi,dite_true];exact(hel i hi).choose_spec.choose_spec
       obtain⟨g,vals,hg⟩:=hex
       refine⟨[.sl ((List.range len).map g)],⟨_,rfl,by simp;omega,fun r hr=>?_⟩,?_⟩
       ·obtain⟨i,hi,rfl⟩:=YK.1 hr
        exact(hg i (List.mem_range.1 hi)).1
       ·have hrow:∀(i:Nat) r,((List.range len).map g)[i]? =some r→i<len∧r=g i:=by
         intro i r hr
         rw[Yl]at hr
         by_cases hi:i<len
         ·rw[List.getElem?_range hi]at hr
          simp at hr;exact⟨hi,hr.symm⟩
         ·rw[Wo (by simp;omega)]at hr;cases hr
        have hcell:∀i j,i<len→j<P.cellsOf e→∃v,(vals i)[j]? =some v∧w.cell? ((a.add (i*P.cellsOf e)).add j)=some v:=fun i j hi hj=>(ZmE (hg i hi).2.1).2 j hj
        have hadd:∀i j,i<len→j<P.cellsOf e→w.cell? ((a.add (i*P.cellsOf e)).add j)=Zbo w a.block (a.off+(i*P.cellsOf e+j))∧(i*P.cellsOf e+j=0→a.spot=none):=by
         intro i j hi hj
         obtain⟨v,_,hv⟩:=hcell i j hi hj
         by_cases hz:i*P.cellsOf e+j=0
         ·have h0:i*P.cellsOf e=0:=by omega
          have hj0:j=0:=by omega
          rw[h0,hj0]at hv⊢
          have e1:(a.add 0).add 0=a:=by simp[Addr.add]
          rw[e1]at hv⊢
          have hs:a.spot=none:=by
           unfold World.cell? at hv;split at hv
           ·split at hv
            ·cases hv
            ·rename_i q;cases hsp:a.spot with|none=>rfl|some _=>simp[hsp]at q
           ·cases hv
          refine⟨?_,fun _=>hs⟩
          unfold Zbo;congr 1
          cases a with
          |mk b o s=>simp only at hs;subst hs;simp
         ·refine⟨?_,fun q=>absurd q hz⟩
          unfold Zbo;congr 1;unfold Addr.add
          by_cases h0:i*P.cellsOf e=0
          ·rw[if_pos h0,if_neg (by omega)]
           simp
          ·rw[if_neg h0]
           by_cases hj0:j=0
           ·rw[if_pos hj0];simp
           ·rw[if_neg hj0];simp;omega
        have hlen2:∀i,i<len→(vals i).length=P.cellsOf e:=fun i hi=>(ZmE (hg i hi).2.1).1
        have hir:=IRep.sl (S:=fun b=>b<w.heap.size) (w:=w) ((List.range len).map g) a cap (P.cellsOf e) vals (by simpa using hbd.2.1) (by simp;omega) ?_ ?_ ?_ ?_
        ·have:=IRepL.one hir
         rw[Ya,List.length_range]at this;exact this
        ·intro hne
         have h0:0<len:=by
          rcases V7 len with q|q
          ·subst q;simp at hne
          ·exact q
         obtain⟨v,_,hv⟩:=hcell 0 0 h0 hok.2
         have h1:=hadd 0 0 h0 hok.2
         refine⟨?_,h1.2 (by simp)⟩
         rw[h1.1]at hv;unfold Zbo World.cell? at hv
         rcases YX a.block w.heap.size with q|q
         ·exact q
         ·simp only[Array.getElem?_eq_none q]at hv;cases hv
        ·intro i r hr
         obtain⟨hi,rfl⟩:=hrow i r hr
         exact⟨by rw[(hg i hi).2.2.1];exact hlen2 i hi,hlen2 i hi⟩
        ·intro i j v hi hv
         simp only[Ya,List.length_range]at hi
         have hj:j<P.cellsOf e:=by
          rw[←hlen2 i hi]
          rcases YX j (vals i).length with q|q
          ·exact q
          ·rw[Wo q]at hv;cases hv
         obtain⟨v',hv',hc'⟩:=hcell i j hi hj
         rw[hv]at hv';injection hv' with hv';subst hv'
         rw[(hadd i j hi hj).1]at hc'
         refine⟨hc',?_⟩
         have hr:=(hg i hi).2.2
         have hcl:j<(g i).length:=by rw[hr.1,hlen2 i hi];exact hj
         exact(hr.2 j _ v (Y3 hcl) hv).cell (ZsQ _ _ (hg i hi).1 _ (We hcl))
        ·intro i j r x v hr hx hv
         obtain⟨hi,rfl⟩:=hrow i r hr
         exact(hg i hi).2.2.2 j x v hx hv
     ·cases h
    |struct fs=>
     simp only[Y8]at hok;simp only at h⊢;split at h
     all_goals try (rename_i q;cases q;done)
     all_goals try (cases h;done)
     rename_i hcl
     ·skip
      rw[Ye]at h
      obtain⟨xs,hxs,h⟩:=h
      injection h with h1 h2
      subst h1;simp only[bulk]at hb
      obtain⟨cells,h1,h2⟩:=Zp1 (S:=fun b=>b<w.heap.size) (fun t cs d ps a b c=>ih t fuel cs d ps a b c) fs.toList 0 _ cs xs hok.1 hok.2 hcl (Yv _) hxs (by omega)
      exact⟨cells,h1,by simpa using h2⟩
    |_=>cases hok
def WArg(P:Program)(B n:Nat)(t:TypeId)(x:AV):Prop:=
 match P.underlying t with
 |some (.struct _)=>∃cells,x=.agg cells∧WT P B n t cells
 |_=>WT P B n t [x]
theorem ZqY{B n:Nat}(hB:B≤LIM){t:TypeId}{base:Nat}{v:Value}{d:DataW H}{ps:List MemPlace}(hok:okT P n t=true)(hv:Value.okWide P w .any base t v)
 (h:DataW.Trod enc P w 0 (fun _=>true) true t v d ps) (hb:bulk d≤B):∃x,WArg P B n t x∧IRep (fun b=>b<w.heap.size) w x v:=by
 obtain⟨fuel,h⟩:=h
 obtain⟨cells,h1,h2⟩:=Zsd hB n t fuel _ d ps hok h hb
 unfold WArg
 cases n with
 |zero=>simp[okT]at hok
 |succ n=>
  unfold okT at hok;unfold Value.okWide at hv
  cases hu:P.underlying t with
  |none=>simp_all
  |some u=>
   have one:∀x,cells=[x]→(∀cs,v≠.agg cs)→IRep (fun b=>b<w.heap.size) w x v:=by
    intro x hx hna;subst hx
    have hcells:v.cells=#[v]:=by cases v<;>first|rfl|simp_all
    rw[hcells]at h2;exact h2.2 0 x v rfl rfl
   have h1':=h1
   unfold WT at h1';rw[hu]at hok hv h1'
   cases u with
   |bool=>
    obtain⟨b,hb⟩:=h1'
    exact⟨_,hb▸h1,one _ hb (fun cs e=>by subst e;simp[Cell.okWide,Cell.ok,hu]at hv)⟩
   |int k=>
    obtain⟨m,hb,_⟩:=h1'
    exact⟨_,hb▸h1,one _ hb (fun cs e=>by subst e;simp[Cell.okWide,Cell.ok,hu]at hv)⟩
   |string=>
    obtain⟨l,hb,_⟩:=h1'
    exact⟨_,hb▸h1,one _ hb (fun cs e=>by subst e;simp[Cell.okWide,Cell.ok,hu]at hv)⟩
   |slice e=>
    obtain⟨rows,hb,_⟩:=h1'
    exact⟨_,hb▸h1,one _ hb (fun cs e=>by subst e;simp[Cell.okWide,Cell.ok,hu]at hv)⟩
   |struct fs=>
    obtain⟨cs,rfl,_,_⟩:=hv
    refine⟨.agg cells,⟨cells,rfl,h1⟩,.agg cells cs ?_ (fun j x v hx hv=>h2.2 j x v hx (by simpa[Value.cells]using hv))⟩
    have:=h2.1
    simpa[Value.cells]using this
   |_=>cases hok
def WArgs(P:Program)(B n:Nat):List TypeId→List AV→Prop
 | [],xs=>xs=[]
 |t::ts,xs=>∃x r,xs=x::r∧WArg P B n t x∧WArgs P B n ts r
theorem Zpd{B n:Nat}(hB:B≤LIM){base:Nat}:∀(ts:List TypeId) (vs:List Value) (ds:List (DataW H)) (ps:List MemPlace),(ts.all fun t=>okT P n t)=true→
 (∀(j:Nat) t v,ts[j]? =some t→vs[j]? =some v→Value.okWide P w .any base t v)→DataW.TrodAll enc P w 0 (fun _=>true) true ts vs ds ps→ZeJ ds≤B→
 ∃xs,WArgs P B n ts xs∧IRepL (fun b=>b<w.heap.size) w xs vs:=by
 intro ts
 induction ts with
 |nil=>
  intro vs ds ps _ _ h _
  cases vs with
  |nil=>exact⟨[],rfl,rfl,fun j x v hx=>by simp⟩
  |cons v r=>simp[DataW.TrodAll]at h
 |cons t ts ih=>
  intro vs ds ps hok hv h hb
  cases vs with
  |nil=>cases ds<;>simp[DataW.TrodAll]at h
  |cons v vs=>
   cases ds with
   |nil=>simp[DataW.TrodAll]at h
   |cons d ds=>
    obtain⟨p,q,h1,h2,rfl⟩:=h
    simp only[List.all_cons,Y8]at hok;simp only[ZeJ]at hb
    obtain⟨x,w1,r1⟩:=ZqY hB hok.1 (hv 0 t v rfl rfl) h1 (by omega)
    obtain⟨xs,w2,r2⟩:=ih vs ds q hok.2 (fun j t' v' a b=>hv (j+1) t' v' (by grind) (by grind)) h2 (by omega)
    exact⟨x::xs,⟨x,xs,rfl,w1,w2⟩,IRepL.app (IRepL.one r1) r2⟩
theorem Zqo{W':World}(hl:laidOutB P=true)(hsame:∀b,b<w.heap.size→W'.heap[b]? =w.heap[b]?){sp:Nat→Bool}:∀(ts:List TypeId) (vs:List Value) (ds:List (DataW H)) (ps:List MemPlace),
 (ts.all fun t=>P.readableRec t&&decide (t<P.types.size))=true→DataW.TrodAll enc P w 0 (fun _=>true) true ts vs ds ps→(∀p,p∈ps→p.block<w.heap.size∧sp p.block=true)→
 DataW.TrodAll enc P W' 0 sp true ts vs ds ps:=by
 intro ts
 induction ts with
 |nil=>intro vs ds ps _ h _;cases vs<;>cases ds<;>simp_all[DataW.TrodAll]
 |cons t ts ih=>
  intro vs ds ps hok h hp
  cases vs with
  |nil=>cases ds<;>simp[DataW.TrodAll]at h
  |cons v vs=>
   cases ds with
   |nil=>simp[DataW.TrodAll]at h
   |cons d ds=>
    obtain⟨p,q,h1,h2,rfl⟩:=h
    simp only[List.all_cons,Y8,Ym]at hok
    refine⟨p,q,?_,ih vs ds q hok.2 h2 (fun x hx=>hp x (List.mem_append_right _ hx)),rfl⟩
    refine WideElems.Trod_stays hl hok.1.1 hok.1.2 h1 (fun x hx=>?_) (fun x hx=>(hp x (WZ _ hx)).2)
    have hlt:=(hp x (WZ _ hx)).1
    have e:=hsame _ hlt
    cases x with
    |cell b off=>simp only[MemPlace.block]at e;simp only[World.sameAt,World.cell?,e]
    |map b=>simp only[MemPlace.block]at e;simp only[World.sameAt,e]
theorem Zq9{G:Gmap}{f:Func}{s:ChangeSpec}{K:Nat}{args:Array Value}{ds gs:List (DataW H)}{before:List MemPlace}{xs:List AV}{tb:TypeId}{apart:Bool}
 (hl:laidOutB P=true) (hr:(f.params.toList.all fun t=>P.readableRec t&&decide (t<P.types.size))=true)
 (hvs:s.vars=[]) (hW:DataW.Whole enc P f.params.toList s.vars apart w args.toList ds gs before) (hG:GOk G (fun b=>b<w.heap.size) w)
 (hx:IRepL (fun b=>b<w.heap.size) w xs args.toList) (hfc:FC P G K [] xs (.bool true) [])
 (hres:(s.fn H (ds++gs)).results=[.lit (.bool true)]) (hargs:(s.fn H (ds++gs)).args=ds) (hvars:(s.fn H (ds++gs)).vars=[])
 (hrt:f.resultTypes=#[tb]) (htb:P.underlying tb=some .bool):
 Calls P K args w fun e W'=>∃v,e=.returned v∧s.post enc P f apart true false false w args v W':=by
 have hlt:∀p∈before,p.block<w.heap.size:=fun p hp=>hW.lt p hp
 have hW2:=hW
 obtain⟨p,q,hA,hV,rfl,hfz,hnd⟩:=hW2
 rw[hvs]at hV
 have hgq:gs=[]∧q=[]:=by cases gs<;>simp_all[DataW.TrodVars]
 obtain⟨rfl,rfl⟩:=hgq
 rw[W8]at hW hlt hfz hnd
 refine(hfc.2.2 (fun b=>b<w.heap.size) (fun _=>none) w args (fun b hb=>hb) hG ⟨fun o x hx=>by simp[lk]at hx,fun o x hx=>by simp,fun o o' x x' hx=>by simp⟩ (fun _ _=>rfl) hx.rep).mono ?_
 rintro e W' ⟨v,S',ι',rfl,hfr, -, -, -, -,hrep, -⟩
 obtain rfl:=hrep.bool_inv
 have hsame:∀b,b<w.heap.size→W'.heap[b]? =w.heap[b]? :=fun b hb=>hfr.old b hb (by
  rintro(q|⟨o,x,l,q,_⟩)
  all_goals grind)
 refine⟨_,rfl,?_⟩
 have hresT:∀(b:Nat) (sp:Nat→Bool) (hd:Bool),DataW.TrodAll enc P W' b sp hd f.resultTypes.toList ((Value.bool true).resultList f.resultTypes.size) (s.fn H (ds++[])).results []:=by
  intro b sp hd;rw[hres,hrt];exact trodAll_mk1 (shut_bool htb true)
 have hargsT:∀sp:Nat→Bool,(∀x∈p,sp x.block=true)→DataW.TrodAll enc P W' 0 sp true f.params.toList args.toList (s.fn H (ds++[])).args p:=by
  intro sp hsp;rw[hargs]
  exact Zqo hl hsame _ _ _ _ hr hA (fun x hx=>⟨hlt x hx,hsp x hx⟩)
 have hvarsT:∀sp:Nat→Bool,DataW.TrodVars enc P W' sp s.vars (s.fn H (ds++[])).vars []:=by
  intro sp;rw[hvs,hvars];rfl
 have hkept:w.keptBut W' (fun _=>False):=by
  refine⟨hfr.os,hfr.output,fun i hi=>?_⟩
  rw[hsame i hi]
  cases ho:w.heap[i]? with
  |none=>simp
  |some o=>grind
 have hold:∀x∈p,(fun b=>decide (b<w.heap.size)) x.block=true:=fun x hx=>by simp_all
 exact⟨ds,[],p,[],p,[],by omega,hresT _ _ _,hargsT _ hold,hvarsT _,World.keptBut_mono (fun x hx=>hx.elim) hkept,fun h=>by cases h⟩
end
section
variable {P:Program}{B n:Nat}{t:TypeId}{cells:List AV}
theorem Zsf(hu:P.underlying t=some .bool)(h:WT P B n t cells):∃b:Bool,cells=cBool b∧True:=by
 cases n with
 |zero=>exact h.elim
 |succ n=>unfold WT at h;simp_all
theorem ZeH{k:IntKind}(hu:P.underlying t=some (.int k))(h:WT P B n t cells):∃m:Int,cells=cInt k m∧okI k m:=by
 cases n with
 |zero=>exact h.elim
 |succ n=>unfold WT at h;rw[hu]at h;obtain⟨b,rfl,hw⟩:=h;exact⟨b,rfl,hw⟩
theorem ZkN(hu:P.underlying t=some .string)(h:WT P B n t cells):∃l:List UInt8,cells=cStr l∧l.length≤B:=by
 cases n with
 |zero=>exact h.elim
 |succ n=>unfold WT at h;simp_all
theorem Zse{α:Type}{c:α→List AV}{ok:α→Prop}:∀(rows:List (List AV)),(∀r,r∈rows→∃x,r=c x∧ok x)→∃l:List α,rows=l.map c∧∀y,y∈l→ok y:=by
 intro rows
 induction rows with
 |nil=>simp
 |cons r rows ih=>
  intro h
  obtain⟨x,rfl,hx⟩:=h r Ys
  obtain⟨l,rfl,hl⟩:=ih (fun q hq=>h q (Yk _ hq))
  refine⟨x::l,rfl,fun y hy=>?_⟩
  grind
theorem rd_sl{e:TypeId}{α:Type}{c:α→List AV}{ok:α→Prop}(hu:P.underlying t=some (.slice e))(he:∀n cells,WT P B n e cells→∃x,cells=c x∧ok x)
 (h:WT P B n t cells):∃l:List α,cells=cSl c l∧(l.length≤B∧∀y,y∈l→ok y):=by
 cases n with
 |zero=>exact h.elim
 |succ n=>
  unfold WT at h;rw[hu]at h
  obtain⟨rows,rfl,hw,hr⟩:=h
  obtain⟨l,rfl,hl⟩:=Zse rows (fun r hr'=>he n r (hr r hr'))
  exact⟨l,rfl,by simp_all,hl⟩
theorem ZjT{fs:Array Field}(hu:P.underlying t=some (.struct fs))(h:WT P B n t cells):∃n',WTF (WT P B n') fs.toList cells:=by
 cases n with
 |zero=>exact h.elim
 |succ n=>unfold WT at h;grind
end
end Go.Ab
