import Derived.Test.YtjpmdkgonlmddaaGreatDoorAbI
import GoSem.ClaimChange
import GoSem.ClaimJoined
import Derived.ChangeSame
import Derived.WideKeyArgs
import Derived.ProofKit
set_option linter.unusedVariables false
namespace Go.Ab
open Go.ChangeShapes Go.WideShapes Go.ChangeAt Go.RowKit
mutual
def ff{H:Type}:DataW H→Nat
 |.lit (.string bytes)=>bytes.length+1
 |.lit _=>1
 |.nil=>1
 |.ptr d=>ff d+1
 |.slice elems spare=>mM elems+mM spare+1
 |.agg parts=>mM parts+1
 |.iface _ d=>ff d+1
 |.map entries=>Bg entries+1
 |.held _=>1
def mM{H:Type}:List (DataW H)→Nat
 | []=>0
 |d::r=>ff d+mM r
def Bg{H:Type}:List (Lit×DataW H)→Nat
 | []=>0
 |x::r=>Lq x+Bg r
def Lq{H:Type}:Lit×DataW H→Nat
 |(.string bytes,d)=>bytes.length+ff d+1
 |(_,d)=>ff d+1
end
theorem Rt{H:Type}(d:DataW H):1≤ff d:=by
 cases d with
 |lit l=>cases l<;>simp[ff]
 |_=>simp[ff]
theorem RG{H:Type}{d:DataW H}{l:List (DataW H)}(h:d∈l):ff d≤mM l:=by
 induction l with
 |nil=>cases h
 |cons x r ih=>
  simp only[mM]
  grind
theorem Rs{H:Type}(l:List (DataW H)):l.length≤mM l:=by
 induction l with
 |nil=>simp
 |cons x r ih=>have:=Rt x;simp only[mM,Ye];omega
theorem KP{α β:Type}{f:α→Option β}:∀{l:List α} {r:List β},l.mapM f=some r→l.length=r.length∧∀(i:Nat) x,l[i]? =some x→∃y,r[i]? =some y∧f x=some y:=by
 intro l
 induction l with
 |nil=>simp
 |cons a l ih=>
  intro r h;rw[List.mapM_cons]at h
  cases hf:f a with
  |none=>simp_all
  |some y=>
   rw[hf]at h
   cases hl:l.mapM f with
   |none=>simp_all
   |some s=>
    grind
def uk(P:Program):List Field→Nat→Nat→Bool
 | [],o,dV=>o==dV
 |f::r,o,dV=>f.offset==o&&uk P r (o+P.cellsOf f.type) dV
def pt(P:Program):Nat→TypeId→Bool
 |0,_=>false
 |n+1,t=>match P.underlying t with
  |some .bool=>true
  |some (.int _)=>true
  |some .string=>true
  |some (.slice e)=>pt P n e&&decide (0<P.cellsOf e)
  |some (.struct fs)=>uk P fs.toList 0 (P.cellsOf t)&&fs.toList.all fun f=>pt P n f.type
  |_=>false
def yO(R:TypeId→List AV→Prop):List Field→List AV→Prop
 | [],cells=>cells=[]
 |f::r,cells=>∃a b,cells=a++b∧R f.type a∧yO R r b
def WT(P:Program)(B:Nat):Nat→TypeId→List AV→Prop
 |0,_,_=>False
 |n+1,t,cells=>match P.underlying t with
  |some .bool=>∃b,cells=[.bool b]
  |some (.int k)=>∃m,cells=[.int k m]∧(Lit.int k m).wf=true
  |some .string=>∃l,cells=[.str l]∧l.length≤B
  |some (.slice e)=>∃rows,cells=[.sl rows]∧rows.length≤B∧∀r,r∈rows→WT P B n e r
  |some (.struct fs)=>yO (WT P B n) fs.toList cells
  |_=>False
theorem QV{R:TypeId→List AV→Prop}(hR:∀t cs,R t cs→∀x,x∈cs→jJ x=true):∀(fs:List Field) (cs:List AV),yO R fs cs→∀x,x∈cs→jJ x=true:=by
 intro fs
 induction fs with
 |nil=>intro cs h x hx;simp only[yO]at h;simp_all
 |cons f r ih=>
  rintro cs ⟨a,b,rfl,h1,h2⟩ x hx
  grind
theorem Rq{P:Program}{B:Nat}:∀(n:Nat) (t:TypeId) (cs:List AV),WT P B n t cs→∀x,x∈cs→jJ x=true:=by
 intro n
 induction n with
 |zero=>intro t cs h;exact h.elim
 |succ n ih=>
  intro t cs h x hx;unfold WT at h;split at h
  ·obtain⟨b,rfl⟩:=h;simp at hx;subst hx;rfl
  ·obtain⟨m,rfl,_⟩:=h;simp at hx;subst hx;rfl
  ·obtain⟨l,rfl,_⟩:=h;simp at hx;subst hx;rfl
  ·obtain⟨rows,rfl,_⟩:=h;simp at hx;subst hx;rfl
  ·exact QV ih _ _ h x hx
  simp_all
theorem QW{P:Program}{B n:Nat}(t:TypeId)(cs:List AV)(h:WT P B n t cs):∀x,x∈cs→jJ x=true:=Rq n t cs h
section
variable {H:Type}{enc:TypeId×Value→H}{P:Program}{w:World}
theorem bO.one{S:Nat→Prop}{x:AV}{v:Value}(h:bR S w x v):bO S w [x] [v]:=
 ⟨rfl,fun j y u hy hu=>by
  grind⟩
theorem bO.app{S:Nat→Prop}{as bs:List AV}{us vs:List Value}(ha:bO S w as us)(hb:bO S w bs vs):bO S w (as++bs) (us++vs):=by
 refine⟨by simp[ha.1,hb.1],fun j x v hx hv=>?_⟩
 by_cases hj:j<as.length
 ·rw[Yt hj]at hx
  rw[Yt (by have:=ha.1;omega)]at hv
  exact ha.2 j x v hx hv
 ·rw[Yf (by omega)]at hx
  rw[Yf (by have:=ha.1;omega)]at hv
  refine hb.2 (j-as.length) x v hx ?_
  rw[ha.1];exact hv
theorem Lr{b:Nat}{a:Addr}{n:Nat}{cs:List Value}(h:w.cells? b a n=some cs):cs.length=n∧∀j,j<n→∃v,cs[j]? =some v∧w.cell? (a.add j)=some v:=by
 unfold World.cells? at h;split at h
 ·obtain⟨h1,h2⟩:=KP h
  refine⟨by simp_all,fun j hj=>?_⟩
  exact h2 j j (by simp_all)
 ·cases h
theorem RV{S:Nat→Prop}{fuel n B:Nat}(ih:∀(t:TypeId) (cs:List Value) (d:DataW H) (ps:List MemPlace),pt P n t=true→DataW.trod enc P w 0 (fun _=>true) true fuel t cs=some (d,ps)→ff d≤B→
 ∃cells,WT P B n t cells∧bO S w cells cs):
 ∀(fs:List Field) (o dV:Nat) (cs:List Value) (xs:List (DataW H×List MemPlace)),uk P fs o dV=true→(fs.all fun f=>pt P n f.type)=true→cs.length=dV→o≤dV→
  (fs.mapM fun f=>DataW.trod enc P w 0 (fun _=>true) true fuel f.type ((cs.drop f.offset).take (P.cellsOf f.type)))=some xs→mM (xs.map (·.1))≤B→
  ∃cells,yO (WT P B n) fs cells∧bO S w cells (cs.drop o):=by
 intro fs
 induction fs with
 |nil=>
  intro o dV cs xs hc _ hl ho h _;simp only[uk,WZ]at hc
  refine⟨[],rfl,?_⟩
  rw[List.drop_eq_nil_of_le (by omega)]
  exact⟨rfl,fun j x v hx=>by simp⟩
 |cons f r NR=>
  intro o dV cs xs hc hok hl ho h hb;simp only[uk,Y9,WZ]at hc;simp only[List.all_cons,Y9]at hok;rw[List.mapM_cons]at h
  cases h1:DataW.trod enc P w 0 (fun _=>true) true fuel f.type ((cs.drop f.offset).take (P.cellsOf f.type))with
  |none=>simp_all
  |some x=>
   rw[h1]at h
   cases h2:(r.mapM fun f=>DataW.trod enc P w 0 (fun _=>true) true fuel f.type ((cs.drop f.offset).take (P.cellsOf f.type)))with
   |none=>simp_all
   |some ys=>
    rw[h2]at h
    have h:some (x::ys)=some xs:=h
    injection h with h;subst h
    simp only[Yp,mM]at hb
    have E9:∀(r:List Field) (o:Nat),uk P r o dV=true→o≤dV:=by
     intro r
     induction r with
     |nil=>intro o h;simp only[uk,WZ]at h;omega
     |cons g r ih=>intro o h;simp only[uk,Y9,WZ]at h;grind
    have hle:=E9 r _ hc.2
    obtain⟨c1,w1,r1⟩:=ih f.type _ x.1 x.2 hok.1 h1 (by omega)
    obtain⟨c2,w2,r2⟩:=NR (o+P.cellsOf f.type) dV cs ys hc.2 hok.2 hl hle h2 (by omega)
    refine⟨c1++c2,⟨c1,c2,rfl,w1,w2⟩,?_⟩
    have:cs.drop o=(cs.drop o).take (P.cellsOf f.type)++cs.drop (o+P.cellsOf f.type):=by
     rw[←Vg,List.take_append_drop]
    rw[this];rw[hc.1]at r1;exact r1.app r2
theorem P'{B:Nat}(hB:B≤bm):∀(n:Nat) (t:TypeId) (fuel:Nat) (cs:List Value) (d:DataW H) (ps:List MemPlace),pt P n t=true→
 DataW.trod enc P w 0 (fun _=>true) true fuel t cs=some (d,ps)→ff d≤B→∃cells,WT P B n t cells∧bO (fun b=>b<w.heap.size) w cells cs:=by
 intro n
 induction n with
 |zero=>intro t fuel cs d ps h;simp[pt]at h
 |succ n ih=>
  intro t fuel cs d ps hok h hb
  cases fuel with
  |zero=>simp[DataW.trod]at h
  |succ fuel=>
   unfold pt at hok;unfold WT;unfold DataW.trod at h
   cases hu:P.underlying t with
   |none=>rw[hu]at hok;cases hok
   |some u=>
    rw[hu]at hok h
    cases u with
    |bool=>
     simp only at h⊢
     split at h<;>first|(rename_i e;cases e;done)|cases h|skip
     all_goals first
      |(rename_i b e;exact⟨[.bool b],⟨b,rfl⟩,.one (.bool b)⟩)
      |(exfalso;simp_all;done)
    |int k=>
     simp only at h⊢;split at h
     all_goals first
      |(
       rename_i k' m e;split at h
       ·rename_i hc
        obtain⟨rfl,hw⟩:=hc
        injection e with e
        injection e with e
        subst e;exact⟨[.int k m],⟨m,rfl,hw⟩,.one (.int k m)⟩
       ·cases h)
      |(exfalso;simp_all;done)
    |string=>
     simp only at h⊢;split at h
     all_goals first
      |(
       rename_i s e;split at h
       ·injection h with h;injection h with h1 h2
        subst h1;simp only[ff]at hb
        exact⟨[.str s.data.toList],⟨_,rfl,by omega⟩,.one (.str s)⟩
       ·cases h)
      |(exfalso;simp_all;done)
    |slice e=>
     simp only[Y9,Yx]at hok;simp only at h⊢;split at h
     all_goals try (rename_i q;cases q;done)
     all_goals try (cases h;done)
     ·injection h with h;injection h with h1 h2;subst h1
      exact⟨[.sl []],⟨[],rfl,YC _,fun r hr=>by cases hr⟩,.one .fI⟩
     rename_i e' a len cap N6;cases N6;split at h
     ·rename_i OT
      cases hm:((List.range len).mapM fun i=>(w.cells? 0 (a.add (i*P.cellsOf e)) (P.cellsOf e)).bind (DataW.trod enc P w 0 (fun _=>true) true fuel e))with
      |none=>rw[hm]at h;cases h
      |some elems=>
       rw[hm]at h;simp only[Y1,Yi]at h;rw[Yj]at h
       obtain⟨rest,_,h⟩:=h
       injection h with h1 h2
       subst h1;simp only[ff]at hb
       obtain⟨hlen,hget⟩:=KP hm
       simp only[List.length_range]at hlen
       have hbl:=Rs (elems.map (·.1))
       rw[Yb]at hbl
       have ua:∀i,i<len→∃cells cs,WT P B n e cells∧w.cells? 0 (a.add (i*P.cellsOf e)) (P.cellsOf e)=some cs∧bO (fun b=>b<w.heap.size) w cells cs:=by
        intro i hi
        obtain⟨y,hy,hf⟩:=hget i i (by simp[List.getElem?_range hi])
        cases hc:w.cells? 0 (a.add (i*P.cellsOf e)) (P.cellsOf e)with
        |none=>rw[hc]at hf;cases hf
        |some cs=>
         rw[hc]at hf
         have hf:DataW.trod enc P w 0 (fun _=>true) true fuel e cs=some (y.1,y.2):=hf
         have mh:y.1∈elems.map (·.1):=YM.2 ⟨y,YA hy,rfl⟩
         have:=RG mh
         obtain⟨cells,h1,h2⟩:=ih e fuel cs y.1 y.2 hok.1 hf (by omega)
         exact⟨cells,cs,h1,rfl,h2⟩
       have hex:∃(g:Nat→List AV) (vals:Nat→List Value),∀i,i<len→WT P B n e (g i)∧w.cells? 0 (a.add (i*P.cellsOf e)) (P.cellsOf e)=some (vals i)∧bO (fun b=>b<w.heap.size) w (g i) (vals i):=by
        refine⟨fun i=>if hi:i<len then(ua i hi).choose else [],fun i=>if hi:i<len then(ua i hi).choose_spec.choose else [],fun i hi=>?_⟩
        simp only[hi,dite_true];exact(ua i hi).choose_spec.choose_spec
       obtain⟨g,vals,hg⟩:=hex
       refine⟨[.sl ((List.range len).map g)],⟨_,rfl,by simp;omega,fun r hr=>?_⟩,?_⟩
       ·obtain⟨i,hi,rfl⟩:=YM.1 hr
        exact(hg i (List.mem_range.1 hi)).1
       ·have hrow:∀(i:Nat) r,((List.range len).map g)[i]? =some r→i<len∧r=g i:=by
         intro i r hr
         rw[Yn]at hr
         by_cases hi:i<len
         ·rw[List.getElem?_range hi]at hr
          simp at hr;exact⟨hi,hr.symm⟩
         ·rw[Wq (by simp;omega)]at hr;cases hr
        have hcell:∀i j,i<len→j<P.cellsOf e→∃v,(vals i)[j]? =some v∧w.cell? ((a.add (i*P.cellsOf e)).add j)=some v:=fun i j hi hj=>(Lr (hg i hi).2.1).2 j hj
        have hadd:∀i j,i<len→j<P.cellsOf e→w.cell? ((a.add (i*P.cellsOf e)).add j)=eY w a.block (a.off+(i*P.cellsOf e+j))∧(i*P.cellsOf e+j=0→a.spot=none):=by
         intro i j hi hj
         obtain⟨v,_,hv⟩:=hcell i j hi hj
         by_cases hz:i*P.cellsOf e+j=0
         ·have h0:i*P.cellsOf e=0:=by omega
          have CB:j=0:=by omega
          rw[h0,CB]at hv⊢
          have e1:(a.add 0).add 0=a:=by simp[Addr.add]
          rw[e1]at hv⊢
          have hs:a.spot=none:=by
           unfold World.cell? at hv;split at hv
           ·split at hv
            ·cases hv
            ·rename_i q;cases hsp:a.spot with|none=>rfl|some _=>simp[hsp]at q
           ·cases hv
          refine⟨?_,fun _=>hs⟩
          unfold eY;congr 1
          cases a with
          |mk b o s=>simp only at hs;subst hs;simp
         ·refine⟨?_,fun q=>absurd q hz⟩
          unfold eY;congr 1;unfold Addr.add
          by_cases h0:i*P.cellsOf e=0
          ·rw[if_pos h0,if_neg (by omega)]
           simp
          ·rw[if_neg h0]
           by_cases CB:j=0
           ·rw[if_pos CB];simp
           ·rw[if_neg CB];simp;omega
        have kW:∀i,i<len→(vals i).length=P.cellsOf e:=fun i hi=>(Lr (hg i hi).2.1).1
        have OF:=bR.sl (S:=fun b=>b<w.heap.size) (w:=w) ((List.range len).map g) a cap (P.cellsOf e) vals (by simpa using OT.2.1) (by simp;omega) ?_ ?_ ?_ ?_
        ·have:=bO.one OF
         rw[Yb,List.length_range]at this;exact this
        ·intro hne
         have h0:0<len:=by
          rcases Vc len with q|q
          ·subst q;simp at hne
          ·exact q
         obtain⟨v,_,hv⟩:=hcell 0 0 h0 hok.2
         have h1:=hadd 0 0 h0 hok.2
         refine⟨?_,h1.2 (by simp)⟩
         rw[h1.1]at hv;unfold eY World.cell? at hv
         rcases YY a.block w.heap.size with q|q
         ·exact q
         ·simp only[Array.getElem?_eq_none q]at hv;cases hv
        ·intro i r hr
         obtain⟨hi,rfl⟩:=hrow i r hr
         exact⟨by rw[(hg i hi).2.2.1];exact kW i hi,kW i hi⟩
        ·intro i j v hi hv
         simp only[Yb,List.length_range]at hi
         have hj:j<P.cellsOf e:=by
          rw[←kW i hi]
          rcases YY j (vals i).length with q|q
          ·exact q
          ·rw[Wq q]at hv;cases hv
         obtain⟨v',hv',hc'⟩:=hcell i j hi hj
         rw[hv]at hv';injection hv' with hv';subst hv'
         rw[(hadd i j hi hj).1]at hc'
         refine⟨hc',?_⟩
         have hr:=(hg i hi).2.2
         have hcl:j<(g i).length:=by rw[hr.1,kW i hi];exact hj
         exact(hr.2 j _ v (Y3 hcl) hv).cell (QW _ _ (hg i hi).1 _ (Wb hcl))
        ·intro i j r x v hr hx hv
         obtain⟨hi,rfl⟩:=hrow i r hr
         exact(hg i hi).2.2.2 j x v hx hv
     ·cases h
    |struct fs=>
     simp only[Y9]at hok;simp only at h⊢;split at h
     all_goals try (rename_i q;cases q;done)
     all_goals try (cases h;done)
     rename_i hcl
     ·skip
      rw[Yj]at h
      obtain⟨xs,lS,h⟩:=h
      injection h with h1 h2
      subst h1;simp only[ff]at hb
      obtain⟨cells,h1,h2⟩:=RV (S:=fun b=>b<w.heap.size) (fun t cs d ps a b c=>ih t fuel cs d ps a b c) fs.toList 0 _ cs xs hok.1 hok.2 hcl (YC _) lS (by omega)
      exact⟨cells,h1,by simpa using h2⟩
    |_=>cases hok
def w8(P:Program)(B n:Nat)(t:TypeId)(x:AV):Prop:=
 match P.underlying t with
 |some (.struct _)=>∃cells,x=.agg cells∧WT P B n t cells
 |_=>WT P B n t [x]
theorem Sk{B n:Nat}(hB:B≤bm){t:TypeId}{base:Nat}{v:Value}{d:DataW H}{ps:List MemPlace}(hok:pt P n t=true)(hv:Value.okWide P w .any base t v)
 (h:DataW.Trod enc P w 0 (fun _=>true) true t v d ps) (hb:ff d≤B):∃x,w8 P B n t x∧bR (fun b=>b<w.heap.size) w x v:=by
 obtain⟨fuel,h⟩:=h
 obtain⟨cells,h1,h2⟩:=P' hB n t fuel _ d ps hok h hb
 unfold w8
 cases n with
 |zero=>simp[pt]at hok
 |succ n=>
  unfold pt at hok;unfold Value.okWide at hv
  cases hu:P.underlying t with
  |none=>simp_all
  |some u=>
   have one:∀x,cells=[x]→(∀cs,v≠.agg cs)→bR (fun b=>b<w.heap.size) w x v:=by
    intro x hx X8;subst hx
    have iL:v.cells=#[v]:=by cases v<;>first|rfl|simp_all
    rw[iL]at h2;exact h2.2 0 x v rfl rfl
   have h1':=h1
   unfold WT at h1';rw[hu]at hok hv h1'
   cases u with
   |bool=>
    obtain⟨b,hb⟩:=h1'
    exact⟨_,hb▸h1,one _ hb (fun cs e=>by subst e;simp[Cell.okWide,Cell.ok,hu]at hv)⟩
   |int k=>
    obtain⟨m,hb,_⟩:=h1'
    exact⟨_,hb▸h1,one _ hb (fun cs e=>by subst e;simp[Cell.okWide,Cell.ok,hu]at hv)⟩
   |string=>
    obtain⟨l,hb,_⟩:=h1'
    exact⟨_,hb▸h1,one _ hb (fun cs e=>by subst e;simp[Cell.okWide,Cell.ok,hu]at hv)⟩
   |slice e=>
    obtain⟨rows,hb,_⟩:=h1'
    exact⟨_,hb▸h1,one _ hb (fun cs e=>by subst e;simp[Cell.okWide,Cell.ok,hu]at hv)⟩
   |struct fs=>
    obtain⟨cs,rfl,_,_⟩:=hv
    refine⟨.agg cells,⟨cells,rfl,h1⟩,.agg cells cs ?_ (fun j x v hx hv=>h2.2 j x v hx (by simpa[Value.cells]using hv))⟩
    have:=h2.1
    simpa[Value.cells]using this
   |_=>cases hok
def uT(P:Program)(B n:Nat):List TypeId→List AV→Prop
 | [],xs=>xs=[]
 |t::ts,xs=>∃x r,xs=x::r∧w8 P B n t x∧uT P B n ts r
theorem Sx{B n:Nat}(hB:B≤bm){base:Nat}:∀(ts:List TypeId) (vs:List Value) (ds:List (DataW H)) (ps:List MemPlace),(ts.all fun t=>pt P n t)=true→
 (∀(j:Nat) t v,ts[j]? =some t→vs[j]? =some v→Value.okWide P w .any base t v)→DataW.TrodAll enc P w 0 (fun _=>true) true ts vs ds ps→mM ds≤B→
 ∃xs,uT P B n ts xs∧bO (fun b=>b<w.heap.size) w xs vs:=by
 intro ts
 induction ts with
 |nil=>
  intro vs ds ps _ _ h _
  cases vs with
  |nil=>exact⟨[],rfl,rfl,fun j x v hx=>by simp⟩
  |cons v r=>simp[DataW.TrodAll]at h
 |cons t ts ih=>
  intro vs ds ps hok hv h hb
  cases vs with
  |nil=>cases ds<;>simp[DataW.TrodAll]at h
  |cons v vs=>
   cases ds with
   |nil=>simp[DataW.TrodAll]at h
   |cons d ds=>
    obtain⟨p,q,h1,h2,rfl⟩:=h
    simp only[List.all_cons,Y9]at hok;simp only[mM]at hb
    obtain⟨x,w1,r1⟩:=Sk hB hok.1 (hv 0 t v rfl rfl) h1 (by omega)
    obtain⟨xs,w2,r2⟩:=ih vs ds q hok.2 (fun j t' v' a b=>hv (j+1) t' v' (by grind) (by grind)) h2 (by omega)
    exact⟨x::xs,⟨x,xs,rfl,w1,w2⟩,bO.app (bO.one r1) r2⟩
theorem RE{W':World}(hl:laidOutB P=true)(hsame:∀b,b<w.heap.size→W'.heap[b]? =w.heap[b]?){sp:Nat→Bool}:∀(ts:List TypeId) (vs:List Value) (ds:List (DataW H)) (ps:List MemPlace),
 (ts.all fun t=>P.readableRec t&&decide (t<P.types.size))=true→DataW.TrodAll enc P w 0 (fun _=>true) true ts vs ds ps→(∀p,p∈ps→p.block<w.heap.size∧sp p.block=true)→
 DataW.TrodAll enc P W' 0 sp true ts vs ds ps:=by
 intro ts
 induction ts with
 |nil=>intro vs ds ps _ h _;cases vs<;>cases ds<;>simp_all[DataW.TrodAll]
 |cons t ts ih=>
  intro vs ds ps hok h hp
  cases vs with
  |nil=>cases ds<;>simp[DataW.TrodAll]at h
  |cons v vs=>
   cases ds with
   |nil=>simp[DataW.TrodAll]at h
   |cons d ds=>
    obtain⟨p,q,h1,h2,rfl⟩:=h
    simp only[List.all_cons,Y9,Yx]at hok
    refine⟨p,q,?_,ih vs ds q hok.2 h2 (fun x hx=>hp x (List.mem_append_right _ hx)),rfl⟩
    refine WideElems.Trod_stays hl hok.1.1 hok.1.2 h1 (fun x hx=>?_) (fun x hx=>(hp x (WL _ hx)).2)
    have hlt:=(hp x (WL _ hx)).1
    have e:=hsame _ hlt
    cases x with
    |cell b off=>simp only[MemPlace.block]at e;simp only[World.sameAt,World.cell?,e]
    |map b=>simp only[MemPlace.block]at e;simp only[World.sameAt,e]
theorem Rg{G:db}{f:Func}{s:ChangeSpec}{K:Nat}{args:Array Value}{ds gs:List (DataW H)}{before:List MemPlace}{xs:List AV}{tb:TypeId}{apart:Bool}
 (hl:laidOutB P=true) (hr:(f.params.toList.all fun t=>P.readableRec t&&decide (t<P.types.size))=true)
 (hvs:s.vars=[]) (hW:DataW.Whole enc P f.params.toList s.vars apart w args.toList ds gs before) (hG:ow G (fun b=>b<w.heap.size) w)
 (hx:bO (fun b=>b<w.heap.size) w xs args.toList) (hfc:FC P G K [] xs (.bool true) [])
 (Fj:(s.fn H (ds++gs)).results=[.lit (.bool true)]) (iZ:(s.fn H (ds++gs)).args=ds) (zq:(s.fn H (ds++gs)).vars=[])
 (Oc:f.resultTypes=#[tb]) (N':P.underlying tb=some .bool):
 Calls P K args w fun e W'=>∃v,e=.returned v∧s.post enc P f apart true false false w args v W':=by
 have hlt:∀p∈before,p.block<w.heap.size:=fun p hp=>hW.lt p hp
 have vK:=hW
 obtain⟨p,q,hA,hV,rfl,hfz,pZ⟩:=vK
 rw[hvs]at hV
 have OI:gs=[]∧q=[]:=by cases gs<;>simp_all[DataW.TrodVars]
 obtain⟨rfl,rfl⟩:=OI
 rw[YE]at hW hlt hfz pZ
 refine(hfc.2.2 (fun b=>b<w.heap.size) (fun _=>none) w args (fun b hb=>hb) hG ⟨fun o x hx=>by simp[lk]at hx,fun o x hx=>by simp,fun o o' x x' hx=>by simp⟩ (fun _ _=>rfl) hx.rep).mono ?_
 rintro e W' ⟨v,S',ι',rfl,hfr, -, -, -, -,hrep, -⟩
 obtain rfl:=hrep.dp
 have hsame:∀b,b<w.heap.size→W'.heap[b]? =w.heap[b]? :=fun b hb=>hfr.old b hb (by
  rintro(q|⟨o,x,l,q,_⟩)
  all_goals grind)
 refine⟨_,rfl,?_⟩
 have zB:∀(b:Nat) (sp:Nat→Bool) (hd:Bool),DataW.TrodAll enc P W' b sp hd f.resultTypes.toList ((Value.bool true).resultList f.resultTypes.size) (s.fn H (ds++[])).results []:=by
  intro b sp hd;rw[Fj,Oc];exact trodAll_mk1 (shut_bool N' true)
 have vG:∀sp:Nat→Bool,(∀x∈p,sp x.block=true)→DataW.TrodAll enc P W' 0 sp true f.params.toList args.toList (s.fn H (ds++[])).args p:=by
  intro sp hsp;rw[iZ]
  exact RE hl hsame _ _ _ _ hr hA (fun x hx=>⟨hlt x hx,hsp x hx⟩)
 have vf:∀sp:Nat→Bool,DataW.TrodVars enc P W' sp s.vars (s.fn H (ds++[])).vars []:=by
  intro sp;rw[hvs,zq];rfl
 have zQ:w.keptBut W' (fun _=>False):=by
  refine⟨hfr.os,hfr.output,fun i hi=>?_⟩
  rw[hsame i hi]
  cases ho:w.heap[i]? with
  |none=>simp
  |some o=>grind
 have hold:∀x∈p,(fun b=>decide (b<w.heap.size)) x.block=true:=fun x hx=>by simp_all
 exact⟨ds,[],p,[],p,[],by omega,zB _ _ _,vG _ hold,vf _,World.keptBut_mono (fun x hx=>hx.elim) zQ,fun h=>by cases h⟩
end
section
variable {P:Program}{B n:Nat}{t:TypeId}{cells:List AV}
theorem P8(hu:P.underlying t=some .bool)(h:WT P B n t cells):∃b:Bool,cells=gP b∧True:=by
 cases n with
 |zero=>exact h.elim
 |succ n=>unfold WT at h;simp_all
theorem kH{k:IntKind}(hu:P.underlying t=some (.int k))(h:WT P B n t cells):∃m:Int,cells=bG k m∧dX k m:=by
 cases n with
 |zero=>exact h.elim
 |succ n=>unfold WT at h;rw[hu]at h;obtain⟨b,rfl,hw⟩:=h;exact⟨b,rfl,hw⟩
theorem xA(hu:P.underlying t=some .string)(h:WT P B n t cells):∃l:List UInt8,cells=fy l∧l.length≤B:=by
 cases n with
 |zero=>exact h.elim
 |succ n=>unfold WT at h;simp_all
theorem P9{α:Type}{c:α→List AV}{ok:α→Prop}:∀(rows:List (List AV)),(∀r,r∈rows→∃x,r=c x∧ok x)→∃l:List α,rows=l.map c∧∀y,y∈l→ok y:=by
 intro rows
 induction rows with
 |nil=>simp
 |cons r rows ih=>
  intro h
  obtain⟨x,rfl,hx⟩:=h r Yl
  obtain⟨l,rfl,hl⟩:=ih (fun q hq=>h q (Yk _ hq))
  refine⟨x::l,rfl,fun y hy=>?_⟩
  grind
theorem tF{e:TypeId}{α:Type}{c:α→List AV}{ok:α→Prop}(hu:P.underlying t=some (.slice e))(he:∀n cells,WT P B n e cells→∃x,cells=c x∧ok x)
 (h:WT P B n t cells):∃l:List α,cells=fe c l∧(l.length≤B∧∀y,y∈l→ok y):=by
 cases n with
 |zero=>exact h.elim
 |succ n=>
  unfold WT at h;rw[hu]at h
  obtain⟨rows,rfl,hw,hr⟩:=h
  obtain⟨l,rfl,hl⟩:=P9 rows (fun r lT=>he n r (hr r lT))
  exact⟨l,rfl,by simp_all,hl⟩
theorem HJ{fs:Array Field}(hu:P.underlying t=some (.struct fs))(h:WT P B n t cells):∃n',yO (WT P B n') fs.toList cells:=by
 cases n with
 |zero=>exact h.elim
 |succ n=>unfold WT at h;grind
end
end Go.Ab
