import Derived.Test.YtjpmdkgonlmddaaGreatDoorAbB
import Derived.WideKeyRuns
import Derived.Deep.AppendSrc
set_option linter.unusedVariables false
namespace Go.Ab
section
variable {S:Nat→Prop}{w:World}{ι:ax}{P:Program}
theorem DL{row:List AV}{vals:List Value}(hL:az S w ι row vals){bd b0:Nat}(hcell:∀(j:Nat) v,vals[j]? =some v→eY w bd (b0+j)=some v∧v.oneCell'=true)
 {t:TypeId} {c:Nat} {v:AV} (hl:ng P t row c=some v):∃v',(loadVar t ⟨bd,b0+c,none⟩).run P w=.ok v' w∧bP S w ι v v':=by
 unfold ng at hl;split at hl
 ·rename_i n hk
  split at hl
  ·rename_i hc
   injection hl with hl;subst hl
   obtain⟨h1,h2⟩:=pB hk w
   have hr:=(hL.drop c).take n
   have hlen:((vals.drop c).take n).length=n:=by
    have:=hL.1
    simp;omega
   have zL:=run_loadCells_list (P:=P) w ⟨bd,b0+c,none⟩ ((vals.drop c).take n) (fun j v hv=>by
    rw[v7]
    grind)
   rw[hlen]at zL
   refine⟨.agg ((vals.drop c).take n).toArray,?_,az.agg (by omega)⟩
   unfold loadVar;simp_all
  grind
 ·rename_i n hk
  obtain⟨h1,h2⟩:=pB hk w
  obtain⟨v',hv,hr⟩:=hL.get hl
  refine⟨v',?_,hr⟩
  have:=(hcell _ _ hv).1
  unfold loadVar;simp_all
 grind
theorem jy.get{p:Bool}{rs:List (List AV)}{vals:Nat→List Value}(h:jy p S w ι rs vals){i:Nat}{row:List AV}(hr:rs[i]? =some row):
 az S w ι row (vals i):=by
 have:=h i row hr
 cases p
 ·simp_all
 ·simp only[Yi]at this;exact this.rep
theorem eZ{α:Type}{l:List α}{i:Nat}{x:α}(h:l[i]? =some x):i<l.length:=by
 grind
theorem xF{o:Nat}{y:AO}{rs:List (List AV)}(h:ca S w ι o y)(hy:y=.rows true rs∨y=.rows false rs∨y=.cT rs):
 (ι o=some none∧rs=[])∨∃l vals,ι o=some (some l)∧rs.length=l.dO∧oV w l rs.length vals∧∀(i:Nat) row,rs[i]? =some row→az S w ι row (vals i):=by
 rcases hy with rfl|rfl|rfl
 ·rcases h with h|⟨l,vals,h1,h2,h3,h4,h5⟩
  ·grind
  ·exact .inr ⟨l,vals,h1,h2,h4,fun i row hr=>h5.get hr⟩
 ·rcases h with h|⟨l,vals,h1,h2,h3,h4,h5⟩
  ·grind
  ·exact .inr ⟨l,vals,h1,h2,h4,fun i row hr=>h5.get hr⟩
 ·rcases h with h|⟨l,vals,h1,h2,h3,h4,h5⟩
  ·grind
  ·exact .inr ⟨l,vals,h1,h2,h4,fun i row hr=>h5.get hr⟩
theorem JJ{row:List AV}{c:Nat}{v:Value}(h:bP S w ι (.rp row c) v):
 ∃bd base vals,v=.pointer (some ⟨bd,base+c,none⟩)∧S bd∧bO S w row vals∧∀(j:Nat) v,vals[j]? =some v→eY w bd (base+j)=some v∧v.oneCell'=true:=by
 cases h with
 |bI _ _ h=>
  cases h with
  |rp _ _ bd base vals hS hl hcell h=>exact⟨bd,base,vals,rfl,hS,⟨hl,h⟩,hcell⟩
theorem PR{xs:List (List AV)}{v:Value}(h:bP S w ι (.sl xs) v){i:Nat}{row:List AV}(hr:xs[i]? =some row):
 ∃(a:Addr) (cap sz:Nat) (vals:List Value),v=.slice (some a) xs.length cap∧a.spot=none∧S a.block∧row.length=sz∧bO S w row vals∧
  ∀(j:Nat) v,vals[j]? =some v→eY w a.block (a.off+i*sz+j)=some v∧v.oneCell'=true:=by
 cases h with
 |bI _ _ h=>
  cases h with
  |fI=>simp at hr
  |sl _ a cap sz vals hcap hlim hS hlen hcell hrep=>
   have hne:xs≠[]:=by intro e;subst e;simp at hr
   have hl:=hlen i row hr
   exact⟨a,cap,sz,vals i,rfl,(hS hne).2,(hS hne).1,hl.1,⟨by omega,fun j x v hx hv=>hrep i j row x v hr hx hv⟩,
    fun j v hv=>by grind⟩
theorem TX:∀(d:Nat) (t:TypeId) (xs ys:List AV) (c:Nat) (r:Bool),kI P d t xs ys c=some r→kJ P d t=true→
 ∀(us vs:Array Value),az S w ι xs us.toList→az S w ι ys vs.toList→c+P.cellsOf t≤xs.length→c+P.cellsOf t≤ys.length→
 ∀(x y:Value),(part t us c).run P w=.ok x w→(part t vs c).run P w=.ok y w→(Op.equalIn (d+1) t x y).run P w=.ok r w:=by
 intro d
 induction d with
 |zero=>intro t xs ys c r h;simp[kI]at h
 |succ d ih=>
  intro t xs ys c r h hp us vs hu hv hcx OR x y hx hy;unfold kI at h;split at h
  ·rename_i k ht
   have vI:(isAgg t).run P w=.ok false w:=by unfold isAgg;simp[Y6 ht]
   split at h
   ·rename_i k1 a k2 b h1 h2
    split at h
    ·rename_i e;subst e
     injection h with h;subst h
     obtain⟨u,zx,zw⟩:=hu.get h1
     obtain⟨v,hv1,hv2⟩:=hv.get h2
     have e1:us[c]? =some u:=by simpa using zx
     have e2:vs[c]? =some v:=by simpa using hv1
     unfold part at hx hy;simp only[Y7,vI,Result.andThen_ok,Yu,Yc,e1,e2,Sem.run_pure,V9,and_true]at hx hy;subst hx;subst hy;rw[zw.bu,hv2.bu];exact run_equalIn_int w (d+1) t k1 k a b ht
    ·cases h
   ·cases h
  ·rename_i ht
   have vI:(isAgg t).run P w=.ok false w:=by unfold isAgg;simp[Y6 ht]
   split at h
   ·rename_i a b h1 h2
    injection h with h;subst h
    obtain⟨u,zx,zw⟩:=hu.get h1
    obtain⟨v,hv1,hv2⟩:=hv.get h2
    have e1:us[c]? =some u:=by simpa using zx
    have e2:vs[c]? =some v:=by simpa using hv1
    unfold part at hx hy;simp only[Y7,vI,Result.andThen_ok,Yu,Yc,e1,e2,Sem.run_pure,V9,and_true]at hx hy;subst hx;subst hy;rw[zw.cx,hv2.cx];rw[run_equalIn_string w (d+1) t _ _ ht];simp
   ·cases h
  ·rename_i ht
   have vI:(isAgg t).run P w=.ok false w:=by unfold isAgg;simp[Y6 ht]
   split at h
   ·rename_i a b h1 h2
    injection h with h;subst h
    obtain⟨u,zx,zw⟩:=hu.get h1
    obtain⟨v,hv1,hv2⟩:=hv.get h2
    have e1:us[c]? =some u:=by simpa using zx
    have e2:vs[c]? =some v:=by simpa using hv1
    unfold part at hx hy;simp only[Y7,vI,Result.andThen_ok,Yu,Yc,e1,e2,Sem.run_pure,V9,and_true]at hx hy;subst hx;subst hy;rw[zw.dp,hv2.dp];exact run_equalIn_bool w (d+1) t a b ht
   ·cases h
  ·rename_i fs ht
   unfold kJ at hp;rw[ht]at hp;simp only[Y9,WW,W4]at hp
   obtain⟨⟨hst,zP⟩,eg⟩:=hp
   have vI:(isAgg t).run P w=.ok true w:=by unfold isAgg;simp[Y6 ht]
   have hsz:(sizeOf t).run P w=.ok (P.cellsOf t) w:=by
    obtain⟨⟨b,n⟩,hk⟩:=YW.1 zP
    have:=(pB hk w).2
    unfold dy at hk;split at hk
    ·cases hk
    ·split at hk
     ·cases hk
     ·rename_i i hi
      rw[qP hi];simp[Program.cellsOf,hi]
   unfold part at hx hy;simp only[Y7,vI,Result.andThen_ok,Yi,hsz,Sem.run_pure,V9,and_true]at hx hy;subst hx;subst hy
   have hfo:P.fieldsOf t=fs:=by simp[Program.fieldsOf,ht]
   rw[run_equalIn_struct w (d+1) t _ _ (by simp_all) hst,hfo]
   have uc:∀f∈fs.toList,(f.name != "_" &&kJ P d f.type&&decide (f.offset+P.cellsOf f.type≤P.cellsOf t))=true:=by
    intro f hf
    have:=Array.all_eq_true.1 eg
    obtain⟨i,hi,he⟩:=Wg hf
    have:=this i (by omega)
    simp only[Array.getElem_toList]at he;rw[he]at this;exact this
   clear eg;generalize fs.toList=l at h uc;clear ht hfo
   induction l generalizing r with
   |nil=>
    simp only[ja,Y2]at h;subst h;rfl
   |cons f l NQ=>
    simp only[ja]at h;split at h
    ·rename_i a b ha hb
     injection h with h;subst h
     have hf:=uc f (by simp)
     simp only[Y9,Yx]at hf
     obtain⟨⟨tZ,jE⟩,Zi⟩:=hf
     have mg:f.name≠ "_" :=by simpa using tZ
     have mf:∀(us:Array Value) (zs:List AV),az S w ι zs us.toList→c+P.cellsOf t≤zs.length→
      ∃q,(part f.type us (c+f.offset)).run P w=.ok q w∧(part f.type (us.extract c (c+P.cellsOf t)) f.offset).run P w=.ok q w:=by
      intro us zs hz hzl
      have E5:=hz.1
      simp only[Array.length_toList]at E5
      have one:(isAgg f.type).run P w=.ok false w→P.cellsOf f.type=1→∃q,(part f.type us (c+f.offset)).run P w=.ok q w∧(part f.type (us.extract c (c+P.cellsOf t)) f.offset).run P w=.ok q w:=by
       intro Ac hone
       have hlt:c+f.offset<us.size:=by omega
       have h1:us[c+f.offset]? =some us[c+f.offset]:=YK hlt
       have h2:(us.extract c (c+P.cellsOf t))[f.offset]? =some us[c+f.offset]:=by
        rw[Array.getElem?_extract,if_pos (by omega),h1]
       refine⟨us[c+f.offset],?_,?_⟩
       ·unfold part
        simp_all
       ·unfold part
        simp_all
      cases d with
      |zero=>simp[kJ]at jE
      |succ d=>
       unfold kJ at jE;split at jE
       ·rename_i fs' sC
        simp only[Y9]at jE
        obtain⟨⟨bb,n⟩,hk⟩:=YW.1 jE.1.2
        have E':(sizeOf f.type).run P w=.ok (P.cellsOf f.type) w:=by
         unfold dy at hk;split at hk
         ·cases hk
         ·split at hk
          ·cases hk
          ·rename_i i hi
           rw[qP hi];simp[Program.cellsOf,hi]
        have Ac:(isAgg f.type).run P w=.ok true w:=by unfold isAgg;simp[Y6 sC]
        refine⟨.agg (us.extract (c+f.offset) (c+f.offset+P.cellsOf f.type)),by unfold part;simp_all,?_⟩
        unfold part;simp only[Y7,Ac,Result.andThen_ok,Yi,E',Sem.run_pure,Array.extract_extract]
        grind
       ·rename_i kk sC
        exact one (by unfold isAgg;simp[Y6 sC]) (by simp_all)
       ·rename_i sC
        exact one (by unfold isAgg;simp[Y6 sC]) (by simp_all)
       ·rename_i sC
        exact one (by unfold isAgg;simp[Y6 sC]) (by simp_all)
       simp_all
     obtain⟨q1,hq1,Fl⟩:=mf us xs hu hcx
     obtain⟨q2,hq2,Fk⟩:=mf vs ys hv OR
     have he:=ih f.type xs ys (c+f.offset) a ha jE us vs hu hv (by omega) (by omega) q1 q2 hq1 hq2
     simp only[Op.eqFields,mg,ne_eq,not_false_iff,Yi,Y7,Fl,Result.andThen_ok,Fk,he];cases a
     all_goals simp_all
    ·cases h
  ·cases h
end
def fP(C:Cx)(un:Nat→Prop)(id:Nat)(o:Oper)(f:FS)(v:AV)(U:List (Nat×Option AO))(next:Act→World→Prop):Prop:=
 ∀S' ι' a' w',Inv C S' ι' (fun x=>un x∧¬(id≤x∧x<id+W)) (f.eO o.dst v U) a' w'→next a' w'
section
variable {C:Cx}{S:Nat→Prop}{w:World}{ι:ax}{P:Program}{un:Nat→Prop}{f:FS}{a:Act}{id:Nat}{o:Oper}
 {next:Act→World→Prop} {Q:Exit→Act→World→Prop}
theorem Inv.goes{v:AV}{U:List (Nat×Option AO)}{S':Nat→Prop}{ι':ax}{ri:Nat→Prop}{w':World}{v':Value}
 (hn:fP C un id o f v U next) (h:Inv C S' ι' ri {f with os:=ay f.os U} a w') (hu:∀x,un x∧¬(id≤x∧x<id+W)→ri x)
 (hv:bP S' w' ι' v v') (hd:∀d,o.dst=some d→C.N.lo≤d∧d<C.N.n):next (a.put o.dst v') w':=by
 refine hn S' ι' _ w' ?_
 have:=(h.put (dst:=o.dst) hv hd).less hu
 have e:({f with os:=ay f.os U}:FS).put o.dst v=f.eO o.dst v U:=by
  unfold FS.eO;cases o.dst<;>rfl
 simp_all
theorem Inv.Ak{v:AV}{v':Value}(hn:fP C un id o f v [] next)(h:Inv C S ι un f a w)
 (hv:bP S w ι v v') (hd:∀d,o.dst=some d→C.N.lo≤d∧d<C.N.n):next (a.put o.dst v') w:=
 Inv.goes hn (U:=[]) (S':=S) (ι':=ι) (ri:=un) h (fun _ hx=>hx.1) hv hd
theorem gJ{v:AV}{v':Value}(hn:fP C un id o f v [] next)(h:Inv C S ι un f a w)(hd:∀d,o.dst=some d→C.N.lo≤d∧d<C.N.n)
 (hrun:(execOp a.eval o).run P w=.ok (.value v') w) (hv:bP S w ι v v'):o.wp P a w next Q:=by
 unfold Oper.wp;rw[hrun,Oper.upon_value];exact Inv.Ak hn h hv hd
theorem JS{cs:List AV}{bd:Obj}{vs:Array Value}{t:TypeId}(hn:fP C un id o f (.ptr id 0 0) [(id,some (.rows false [cs]))] next)
 (h:Inv C S ι un f a w) (hd:∀d,o.dst=some d→C.N.lo≤d∧d<C.N.n) (hid:∀x,id≤x→x<id+W→un x)
 (hb:bd=.cells vs t) (hvs:az S w ι cs vs.toList) (hone:∀v,v∈vs.toList→v.oneCell'=true) (hrun:(execOp a.eval o).run P w=.ok (.value (.pointer (some ⟨w.heap.size,0,none⟩))) (w.alloc bd)):
 o.wp P a w next Q:=by
 unfold Oper.wp;rw[hrun,Oper.upon_value];subst hb
 have hlen:=hvs.1
 simp only[Array.length_toList]at hlen
 obtain⟨ι',hle,hι',hinv⟩:=h.alloc (hid id (Yg _) (by simp[W])) (.cells vs t) ⟨w.heap.size,0,cs.length,cs.length,1⟩ rfl (.rows false [cs]) rfl (fun _ h=>iw rfl h) (fun ι' hle hι'=>by
  refine .inr ⟨_,fun _=>vs.toList,hι',rfl,fun j=>⟨fun hj=>?_,fun _=>by simp⟩,⟨by simp,fun i hi=>by grind,fun i j v hi hv=>?_⟩,fun i r hr=>?_⟩
  ·simp_all
  ·simp only[List.length_singleton]at hi
   have:i=0:=by omega
   subst this;simp only[Vb,YS,eY]
   rw[World.cell?_alloc_new]
   grind
  ·have:i=0:=by have:=eZ hr;simp at this;omega
   subst this
   simp only[List.getElem?_cons_zero,Y2]at hr
   subst hr;simp only[Yu,Yc]
   exact hvs.mono (fun _ x=>x) (fun b hb=>qJ w _ b (h.sb b hb)) hle)
 refine Inv.goes hn hinv (fun x hx=>⟨hx.1,fun e=>hx.2 ⟨by omega,by subst e;simp[W]⟩⟩) ?_ hd
 have:=bP.ptr (S:=S) (w:=w.alloc (.cells vs t)) (ι:=ι') id 0 0 _ hι'
 simp_all
theorem uA{cs:List AV}{vs:List Value}(h:az S w ι cs vs)(hc:cs.all jJ=true):∀v,v∈vs→v.oneCell'=true:=by
 intro v hv
 obtain⟨j,hj⟩:=Wj hv
 have hjc:j<cs.length:=by rw[h.1];exact eZ hj
 exact(h.2 j _ v (Y3 hjc) hj).cell (YG.1 hc _ (Wb hjc))
theorem LL{t:TypeId}{cs:List AV}(h:ie P t=some cs):
 ∃z,(zeroValue t).run P w=.ok z w∧az S w ι cs z.cells.toList∧∀v,v∈z.cells.toList→v.oneCell'=true:=by
 unfold ie at h;split at h
 ·cases h
 ·rename_i i hi
  split at h
  ·rename_i z hz
   have h9:=yf (S:=S) (w:=w) (ι:=ι) h (.bI _ _ (s7 z))
   exact⟨z,by simp[zeroValue,typeInfo,hi,hz],h9.1,uA h9.1 h9.2⟩
  ·cases h
theorem HC{t e:TypeId}{ab:Addr}{len cap:Nat}{k:IntKind}{n:Int}{b:Bool}{sz:Nat}(ht:P.underlying t=some (.slice e))(hk:dy P e=some (b,sz))
 (h0:0≤n) (h1:n<len) (hs:ab.spot=none):(Instr.indexAt t (.slice (some ab) len cap) (.int k n)).run P w=.ok (.pointer (some ⟨ab.block,ab.off+n.toNat*sz,none⟩)) w:=by
 have ua:P.elem t=e:=by simp[Program.elem,ht]
 have:=run_indexAt_slice (P:=P) w t ab len cap k n (by simp_all)
 rw[this,ua,if_pos ⟨h0,h1⟩,(pB hk w).2]
 obtain⟨bl,of,sp⟩:=ab
 simp only at hs;subst hs;simp only[Result.andThen_ok,v7]
theorem LY{t e:TypeId}{bl of len:Nat}{k:IntKind}{n:Int}{b:Bool}{sz:Nat}(ht:P.underlying t=some (.array len e))(hk:dy P e=some (b,sz))
 (h0:0≤n) (h1:n<len):(Instr.indexAt t (.pointer (some ⟨bl,of,none⟩)) (.int k n)).run P w=.ok (.pointer (some ⟨bl,of+n.toNat*sz,none⟩)) w:=by
 have ua:P.elem t=e:=by simp[Program.elem,ht]
 have sG:P.arrayLen t=len:=by simp[Program.arrayLen,ht]
 have:=run_indexAt_array (P:=P) w t ⟨bl,of,none⟩ k n (by simp_all)
 rw[this,ua,sG,if_pos ⟨h0,h1⟩,(pB hk w).2];simp only[Result.andThen_ok,v7]
theorem vY{o' off len room:Nat}{v:Value}(h:bP S w ι (.eN o' off len room) v):
 (∃l a cap,ι o'=some (some l)∧v=.slice (some a) len cap∧len≤room∧room≤cap∧l.base+(off+cap)*l.bo≤l.size∧len≤bm∧off+room≤l.dO∧
  (cap≠0→a=⟨l.bd,l.base+off*l.bo,none⟩))∨(ι o'=some none∧off=0∧len=0∧room=0∧∃a,v=.slice a 0 0):=by
 cases h with
 |bI _ _ h=>cases h
 |eN _ _ _ _ cap a l h h1 h2 h3 h4 h5 ha=>grind
 |iG _ a h=>simp_all
theorem kp{o' z:Nat}{v:Value}(h:bP S w ι (.an o' z) v):
 (∃l a cap,ι o'=some (some l)∧v=.slice (some a) l.dO cap∧l.dO≤cap∧l.base+cap*l.bo≤l.size∧l.dO≤bm∧(l.dO=0→cap≠0→l.bo=z)∧
  (cap≠0→a=⟨l.bd,l.base,none⟩))∨(ι o'=some none∧∃a,v=.slice a 0 0):=by
 cases h with
 |bI _ _ h=>cases h
 |an _ _ cap a l h h2 h3 h4 hz ha=>grind
 |fk _ _ a h=>simp_all
end
section
variable {S:Nat→Prop}{w:World}{ι:ax}{P:Program}
theorem QA{d d':Nat}(ih:∀t xs ys c r,kI P d t xs ys c=some r→kI P d' t xs ys c=some r):
 ∀(l:List Field) (xs ys:List AV) (c:Nat) (r:Bool),ja (kI P d) l xs ys c=some r→ja (kI P d') l xs ys c=some r:=by
 intro l
 induction l with
 |nil=>intro xs ys c r h;simpa[ja]using h
 |cons f l NQ=>
  intro xs ys c r h;simp only[ja]at h⊢
  grind
theorem Ui:∀(d:Nat) (t:TypeId) (xs ys:List AV) (c:Nat) (r:Bool),kI P d t xs ys c=some r→kI P (d+1) t xs ys c=some r:=by
 intro d
 induction d with
 |zero=>intro t xs ys c r h;simp[kI]at h
 |succ d ih=>
  intro t xs ys c r h;unfold kI at h;unfold kI;split at h
  ·exact h
  ·exact h
  ·exact h
  ·exact QA ih _ _ _ _ _ h
  ·cases h
theorem Te(k:Nat):∀(d:Nat) (t:TypeId) (xs ys:List AV) (c:Nat) (r:Bool),kI P d t xs ys c=some r→kI P (d+k) t xs ys c=some r:=by
 induction k with
 |zero=>simp
 |succ k ih=>intro d t xs ys c r h;exact Ui (d+k) t xs ys c r (ih d t xs ys c r h)
theorem Us:∀(d:Nat) (t:TypeId),kJ P d t=true→kJ P (d+1) t=true:=by
 intro d
 induction d with
 |zero=>intro t h;simp[kJ]at h
 |succ d ih=>
  intro t h;unfold kJ at h;unfold kJ
  grind
theorem Tu(k:Nat):∀(d:Nat) (t:TypeId),kJ P d t=true→kJ P (d+k) t=true:=by
 induction k with
 |zero=>simp
 |succ k ih=>intro d t h;exact Us (d+k) t (ih d t h)
theorem Gy{t:TypeId}{cs ds:List AV}{us vs:Array Value}{r:Bool}(h1:az S w ι cs us.toList)(h2:az S w ι ds vs.toList)(hp:kJ P 20 t=true)
 (hc:cs.length=P.cellsOf t) (hd:ds.length=P.cellsOf t) (he:kI P 20 t cs ds 0=some r) (hst:∃fs,P.underlying t=some (.struct fs)):(Op.equalIn 10000 t (.agg us) (.agg vs)).run P w=.ok r w:=by
 have l1:=h1.1;have l2:=h2.1
 simp only[Array.length_toList]at l1 l2
 obtain⟨fs,ht⟩:=hst
 have hk:(dy P t).isSome=true:=by
  unfold kJ at hp;rw[ht]at hp;simp only[Y9]at hp;exact hp.1.2
 obtain⟨⟨b,n⟩,hk⟩:=YW.1 hk
 obtain⟨ha,hs⟩:=pB hk w
 have hb:b=true:=by
  unfold dy at hk;rw[ht]at hk;simp only at hk;split at hk
  ·cases hk
  ·simp_all
 have hn:n=P.cellsOf t:=by
  unfold dy at hk;rw[ht]at hk;simp only at hk;split at hk
  ·cases hk
  ·rename_i i hi
   simp only[Y2,Wv]at hk;rw[←hk.2];simp[Program.cellsOf,hi]
 subst hb
 have mf:∀(xs:Array Value),xs.size=P.cellsOf t→(part t xs 0).run P w=.ok (.agg xs) w:=by
  intro xs hx;unfold part;simp only[Y7,ha,Result.andThen_ok,Yi,hs,Sem.run_pure,YS,hn,←hx];congr 2;simp
 exact TX 9999 t cs ds 0 r (Te 9979 20 t cs ds 0 r he) (Tu 9979 20 t hp) us vs h1 h2 (by omega) (by omega) _ _ (mf us (by omega)) (mf vs (by omega))
def kh(o:Option Value)(d n:Nat):Prop:=
 match o with
 |none=>n=d
 |some v=>∃k i,v=.int k i∧0≤i∧i.toNat=n
theorem L4{NP:Bool}{len cap a b:Nat}{lo hi:Option Value}(ha:kh lo 0 a)(hb:kh hi len b)(gr:a≤b)(Jg:b≤cap):
 (Instr.sliceBounds NP len cap lo hi none).run P w=.ok (a,b,cap) w:=by
 unfold Instr.sliceBounds
 cases hi with
 |none=>
  simp only[kh]at hb;subst hb
  cases lo with
  |none=>simp only[kh]at ha;simp_all
  |some v=>
   obtain⟨k,i,rfl,h0,rfl⟩:=ha
   simp only[Y7,Sem.run_pure,Result.andThen_ok]
   rw[Ve w k i b _ h0 (by omega)]
   simp
 |some u=>
  obtain⟨k,i,rfl,h0,rfl⟩:=hb
  simp only[Y7,Sem.run_pure,Result.andThen_ok]
  rw[Ve w k i cap _ h0 (by omega)]
  cases lo with
  |none=>simp only[kh]at ha;simp_all
  |some v=>
   obtain⟨k',i',rfl,CO,rfl⟩:=ha
   simp only[Y7,Sem.run_pure,Result.andThen_ok]
   rw[Ve w k' i' i.toNat _ CO (by omega)]
   simp
theorem SF{t:TypeId}{l:List UInt8}{a b:Nat}{lo hi:Option Value}(ht:P.underlying t=some .string)(ha:kh lo 0 a)(hb:kh hi l.length b)(gr:a≤b)(hbl:b≤l.length):
 (Instr.sliceAt t (.string ⟨l.toArray⟩) lo hi none).run P w=.ok (.string ⟨((l.take b).drop a).toArray⟩) w:=by
 have e:(⟨l.toArray⟩:ByteArray).size=l.length:=by show l.toArray.size=_;simp
 have hx:((⟨l.toArray⟩:ByteArray).extract a b)=⟨((l.take b).drop a).toArray⟩:=by
  apply ByteArray.ext;simp[ByteArray.data_extract,List.extract_eq_take_drop,List.drop_take]
 unfold Instr.sliceAt;simp only[Y7,Y6 ht,Result.andThen_ok];unfold Instr.slice;simp only[Y7,Y6 ht,Result.andThen_ok,Option.isSome_none,Yu,Yc,Sem.run_pure,e,L4 ha hb gr hbl,hx]
theorem we{t e:TypeId}{ad:Option Addr}{len cap a b sz:Nat}{lo hi:Option Value}(ht:P.underlying t=some (.slice e)){i:TypeInfo}(vB:P.info? e=some i)(hsz:i.size=sz)
 (ha:kh lo 0 a) (hb:kh hi len b) (gr:a≤b) (Jg:b≤cap):
 (Instr.sliceAt t (.slice ad len cap) lo hi none).run P w=.ok (.slice (if cap=a then ad else ad.map (·.add (a*sz))) (b-a) (cap-a)) w:=by
 unfold Instr.sliceAt;simp only[Y7,Y6 ht,Result.andThen_ok];unfold Instr.slice;simp only[Y7,Y6 ht,Result.andThen_ok,L4 ha hb gr Jg,qP vB,hsz,Sem.run_pure]
theorem TE{t e:TypeId}{ad:Option Addr}{len cap sz:Nat}{lo:Option Value}{k k':IntKind}(ht:P.underlying t=some (.slice e)){i:TypeInfo}(vB:P.info? e=some i)(hsz:i.size=sz)(ha:kh lo 0 0):
 (Instr.sliceAt t (.slice ad len cap) lo (some (.int k 0)) (some (.int k' 0))).run P w=.ok (.slice ad 0 0) w:=by
 unfold Instr.sliceAt;simp only[Y7,Y6 ht,Result.andThen_ok];unfold Instr.slice
 have hb:(Instr.sliceBounds true len cap lo (some (.int k 0)) (some (.int k' 0))).run P w=.ok (0,0,0) w:=by
  unfold Instr.sliceBounds;simp only[Y7]
  rw[Ve w k' 0 cap _ (by omega) (by omega)]
  simp only[Result.andThen_ok]
  rw[Ve w k 0 _ _ (by omega) (by simp)]
  cases lo with
  |none=>simp
  |some v=>
   obtain⟨k2,i,rfl,h0,h1⟩:=ha
   have:i=0:=by omega
   subst this;rfl
 simp only[Y7,Y6 ht,Result.andThen_ok,hb,qP vB,hsz,Sem.run_pure,Yi,WN]
theorem Qc{xs:List (List AV)}{ad:Option Addr}{len cap a b sz:Nat}(h:bP S w ι (.sl xs) (.slice ad len cap))(hlen:a=0∨∀r,r∈xs→r.length=sz)(gr:a≤b)(hb:b≤xs.length):
 len=xs.length∧len≤cap∧bP S w ι (.sl ((xs.take b).drop a)) (.slice (if cap=a then ad else ad.map (·.add (a*sz))) (b-a) (cap-a)):=by
 cases h with
 |bI _ _ h=>
  generalize hv:Value.slice ad len cap=v at h
  cases h with
  |fI=>
   injection hv with h1 h2 h3
   subst h1;subst h2;subst h3;simp only[YB]at hb
   refine⟨rfl,Yg _,.bI _ _ ?_⟩
   have Jh:b=0:=by omega
   have OV:a=0:=by omega
   subst Jh;subst OV;simp only[V5,List.drop_nil,Yi,WN];exact .fI
  |sl _ a' Aw EI vals hcap hlim hS hl hcell hrep=>
   injection hv with h1 h2 h3
   subst h1;subst h2;subst h3
   refine⟨rfl,hcap,.bI _ _ ?_⟩
   have p5:((xs.take b).drop a).length=b-a:=by simp;omega
   have hget:∀(i:Nat) r,((xs.take b).drop a)[i]? =some r→i<b-a∧xs[a+i]? =some r:=by
    intro i r jD
    have hlt:=eZ jD
    rw[p5]at hlt
    rw[YR,W8]at jD
    rw[if_pos (by omega)]at jD
    exact⟨hlt,jD⟩
   have FJ:∀CW:Addr,((xs.take b).drop a≠[]→CW=⟨a'.block,a'.off+a*EI,none⟩)→bR S w (.sl ((xs.take b).drop a)) (.slice (some CW) (b-a) (cap-a)):=by
    intro CW CI
    have:=bR.sl (S:=S) (w:=w) ((xs.take b).drop a) CW (cap-a) EI (fun i=>vals (a+i)) (by omega) (by omega) (fun hne=>by
     grind) (fun i r jD=>hl _ r (hget i r jD).2) (fun i j v hi hv=>by
     have hne:(xs.take b).drop a≠[]:=by intro e;rw[e]at hi;simp at hi
     grind) (fun i j r x v h1 h2 h3=>hrep _ j r x v (hget i r h1).2 h2 h3)
    rw[p5]at this;exact this
   split
   ·grind
   ·refine FJ (a'.add (a*sz)) (fun hne=>?_)
    have hx:xs≠[]:=by intro e;subst e;simp at hne
    have hsp:=(hS hx).2
    obtain⟨x,Cv⟩:=Wy xs hx
    obtain⟨i,hi⟩:=Wj Cv
    have e1:=(hl i x hi).1
    have e2:a*sz=a*EI:=by
     rcases hlen with rfl|hlen
     ·simp
     ·simp_all
    rw[e2]
    obtain⟨bl,of,sp⟩:=a'
    simp only at hsp;subst hsp;exact v7 _ _ _
theorem Gp{e:Bool}{n:Nat}{kt:TypeId}{k q:IntKind}{i:Int}(h:P.underlying kt=some (.int k)):(Instr.checkKey e (n+1) kt (.int q i)).run P w=.ok () w:=by
 rw[V7];simp only[Y7,Y6 h,Result.andThen_ok,Sem.run_pure]
theorem Pt{e:Bool}{n:Nat}{kt:TypeId}{b:ByteArray}(h:P.underlying kt=some .string):(Instr.checkKey e (n+1) kt (.string b)).run P w=.ok () w:=by
 rw[V7];simp only[Y7,Y6 h,Result.andThen_ok,Sem.run_pure]
theorem Qw{e:Bool}{n:Nat}{kt:TypeId}{b:Bool}(h:P.underlying kt=some .bool):(Instr.checkKey e (n+1) kt (.bool b)).run P w=.ok () w:=by
 rw[V7];simp only[Y7,Y6 h,Result.andThen_ok,Sem.run_pure]
theorem Gz(n:Nat)(k:IntKind)(i:Int):Instr.sameBits n (.int k i) (.int k i)=true:=by rw[Instr.sameBits.eq_2];simp
theorem JK(n:Nat)(l:List UInt8):Instr.sameBits n (.string ⟨l.toArray⟩) (.string ⟨l.toArray⟩)=true:=by rw[Instr.sameBits.eq_5,K2];simp
theorem Kc(n:Nat)(b:Bool):Instr.sameBits n (.bool b) (.bool b)=true:=by rw[Instr.sameBits.eq_1];simp
theorem Kd(q r:IntKind)(a b:Int):Instr.sameBits 10000 (.agg #[.int q a,.int r b]) (.agg #[.int q a,.int r b])=true:=by
 rw[show(10000:Nat)=9999+1 from rfl,Instr.sameBits.eq_10]
 simp[Gz]
theorem qI{q r:IntKind}{a b:Int}{u:Value}(hu:bP S w ι (.agg [.int q a,.int r b]) u):u=.agg #[.int q a,.int r b]:=by
 obtain⟨vs,rfl,hl,hg⟩:=hu.dG
 match vs,hl with
 |⟨[x,y]⟩,_=>
  have h1:=(hg 0 _ x rfl rfl).bu
  have h2:=(hg 1 _ y rfl rfl).bu
  simp_all
theorem Me{kt:TypeId}{k k':AV}{u v:Value}(h:cY P kt k k'=some true)(hu:bP S w ι k u)(hv:bR S w k' v):Instr.sameBits 10000 v u=true:=by
 unfold cY at h;split at h
 ·rename_i q0 q a q' b' ht
  split at h
  ·rename_i e;subst e
   injection h with h
   rw[hu.bu];cases hv
   have:a=b':=by simpa using h
   subst this;exact Gz _ _ _
  ·cases h
 ·rename_i a b' ht
  injection h with h
  rw[hu.cx]
  have hv':=(bP.bI (ι:=ι) _ _ hv).cx
  rw[hv']
  have:a=b':=by simpa using h
  subst this;exact JK _ _
 ·rename_i a b' ht
  injection h with h
  rw[hu.dp];cases hv
  have:a=b':=by simpa using h
  subst this;exact Kc _ _
 ·rename_i fs q a r b q' a' r' b' ht
  split at h
  ·rename_i e
   obtain⟨e1,e2⟩:=e;subst e1;subst e2
   injection h with h
   have hv':=qI (bP.bI (ι:=ι) _ _ hv)
   rw[qI hu,hv'];simp only[Y9,WZ]at h
   obtain⟨rfl,rfl⟩:=h
   exact Kd _ _ _ _
  ·cases h
 ·cases h
theorem Ld{kt:TypeId}{k k':AV}{b:Bool}{u v:Value}{d:TypeDesc}(hd:P.underlying kt=some d)(zG:∀fs,d≠.struct fs)(h:cY P kt k k'=some b)(hu:bP S w ι k u)(hv:bR S w k' v):
 Instr.sameNow d u v=some b:=by
 unfold cY at h;split at h
 ·rename_i q0 q a q' b' ht
  rw[hd]at ht;injection ht with ht;subst ht
  split at h
  ·rename_i e;subst e
   injection h with h;subst h
   rw[hu.bu];cases hv;simp[Instr.sameNow]
  ·cases h
 ·rename_i a b' ht
  rw[hd]at ht;injection ht with ht;subst ht
  injection h with h;subst h
  rw[hu.cx]
  have hv':=(bP.bI (ι:=ι) _ _ hv).cx
  rw[hv'];simp[Instr.sameNow,K2]
 ·rename_i a b' ht
  rw[hd]at ht;injection ht with ht;subst ht
  injection h with h;subst h
  rw[hu.dp];cases hv;rfl
 all_goals grind
theorem Tg{p:Bool}{kt:TypeId}{k:AV}{u:Value}{d:TypeDesc}(hd:P.underlying kt=some d)(zG:∀fs,d≠.struct fs)(hu:bP S w ι k u):
 ∀(es:List (AV×AV)) (xs:List MapEntry) (i:Nat) (r:Option Nat),jj p S w ι es xs→fQ P kt k es i r→
  (∃e,Instr.findNow d u xs i=some e∧e.map (·.1)=r∧∀j y,e=some (j,y)→i≤j∧∃q,xs[j-i]? =some q∧q.val=y):=by
 intro es
 induction es with
 |nil=>
  intro xs i r hm h
  have:xs=[]:=Yy.1 hm.1.symm
  subst this;simp only[fQ]at h;subst h
  exact⟨none,rfl,rfl,by simp⟩
 |cons e es ih=>
  intro xs i r hm h
  cases xs with
  |nil=>have:=hm.1;grind
  |cons x xs=>
   have jh:jj p S w ι es xs:=⟨by simpa using hm.1,fun j a b ha hb=>hm.2 (j+1) a b (by simp_all) (by simp_all)⟩
   have hx:=hm.2 0 e x rfl rfl
   simp only[fQ]at h
   rcases h with ⟨h1,rfl⟩|⟨h1,h2⟩
   ·have hs:=Ld hd zG h1 hu hx.1
    refine⟨some (i,x.val),by simp[Instr.findNow,hs],rfl,?_⟩
    simp
   ·have hs:=Ld hd zG h1 hu hx.1
    obtain⟨e',h3,h4,h5⟩:=ih xs (i+1) r jh h2
    refine⟨e',by simp[Instr.findNow,hs,h3],h4,?_⟩
    grind
theorem LM{kt:TypeId}(h:nF P kt=true):∃f g:Field,P.underlying kt=some (.struct #[f,g])∧f.name≠ "_" ∧g.name≠ "_" ∧f.offset=0∧g.offset=1∧
 (∃k,P.underlying f.type=some (.int k))∧(∃k,P.underlying g.type=some (.int k))∧(dy P f.type).map (·.1)=some false∧(dy P g.type).map (·.1)=some false∧kJ P 20 kt=true∧P.cellsOf kt=2:=by
 unfold nF at h;split at h
 ·rename_i fs ht
  split at h
  ·rename_i f g hfs
   simp only[Y9,Yx,bne_iff_ne,ne_eq]at h
   obtain⟨⟨⟨⟨⟨⟨⟨⟨h1,h2⟩,h3⟩,h4⟩,h5⟩,h6⟩,h7⟩,h8⟩,h9⟩:=h
   have e:fs=#[f,g]:=by apply Array.ext';simpa using hfs
   grind
  ·cases h
 ·cases h
theorem KY{t:TypeId}{xs:Array Value}{c:Nat}{v:Value}(h:(dy P t).map (·.1)=some false)(hv:xs[c]? =some v):(part t xs c).run P w=.ok v w:=by
 rw[Yj]at h
 obtain⟨⟨b,n⟩,hk,hb⟩:=h
 simp only at hb;subst hb
 obtain⟨ha,hs⟩:=pB hk w
 unfold part;simp_all
theorem Qx{e:Bool}{kt:TypeId}{q r:IntKind}{a b:Int}(h:nF P kt=true):(Instr.checkKey e 10000 kt (.agg #[.int q a,.int r b])).run P w=.ok () w:=by
 obtain⟨f,g,ht,h1,h2,h3,h4,⟨k1,hf⟩,⟨k2,hg⟩,h6,h7,_,_⟩:=LM h
 have p1:(part f.type #[.int q a,.int r b] f.offset).run P w=.ok (.int q a) w:=KY h6 (by grind)
 have p2:(part g.type #[.int q a,.int r b] g.offset).run P w=.ok (.int r b) w:=KY h7 (by grind)
 have c1:(Instr.checkKey e 9999 f.type (.int q a)).run P w=.ok () w:=Gp hf
 have c2:(Instr.checkKey e 9999 g.type (.int r b)).run P w=.ok () w:=Gp hg
 rw[show(10000:Nat)=9999+1 from rfl,V7]
 simp[Y6 ht,h1,h2,p1,p2,c1,c2]
theorem QC{p:Bool}{kt:TypeId}{k:AV}{u:Value}(hk:dz P kt k=true){fs:Array Field}(hd:P.underlying kt=some (.struct fs))(hu:bP S w ι k u):
 ∀(es:List (AV×AV)) (xs:List MapEntry) (i:Nat) (r:Option Nat),jj p S w ι es xs→fQ P kt k es i r→
  (∃e,(Instr.findAsking kt u xs i).run P w=.ok e w∧e.map (·.1)=r∧∀j y,e=some (j,y)→i≤j∧∃q,xs[j-i]? =some q∧q.val=y):=by
 unfold dz at hk;rw[hd]at hk;split at hk
 ·simp_all
 ·simp_all
 ·simp_all
 ·rename_i _ q a r0 b ht
  obtain⟨f,g,OM,_,_,ho1,Ol,⟨ki,FM⟩,⟨kj,OJ⟩,_,_,nU,hcl⟩:=LM hk
  have Jv:∀(k':AV) (v:Value) (c:Bool),cY P kt (.agg [.int q a,.int r0 b]) k'=some c→bR S w k' v→(Op.equal kt u v).run P w=.ok c w:=by
   intro k' v c hc hv;unfold cY at hc;rw[hd]at hc;split at hc
   ·simp_all
   ·simp_all
   ·simp_all
   ·rename_i _ q1 a1 r1 b1 q' a' r' b' _ e1
    injection e1 with e1
    simp only[List.cons.injEq,AV.int.injEq,and_true]at e1
    obtain⟨⟨rfl,rfl⟩,rfl,rfl⟩:=e1
    split at hc
    ·rename_i e
     obtain⟨e2,e3⟩:=e;subst e2;subst e3
     injection hc with hc;subst hc
     rw[qI hu,qI (bP.bI (ι:=ι) _ _ hv)]
     have h1:=hu;rw[qI hu]at h1
     have h2:=bP.bI (ι:=ι) _ _ hv;rw[qI h2]at h2
     obtain⟨_,e4,vL⟩:=h1.dG
     injection e4 with e4;subst e4
     obtain⟨_,e5,sI⟩:=h2.dG
     injection e5 with e5;subst e5
     refine Gy vL sI nU hcl.symm hcl.symm ?_ ⟨_,hd⟩
     simp only[kI,OM,ja,FM,OJ,ho1,Ol];simp
    grind
   ·cases hc
  intro es
  induction es with
  |nil=>
   intro xs i r hm h
   have:xs=[]:=Yy.1 hm.1.symm
   subst this;simp only[fQ]at h;subst h
   exact⟨none,rfl,rfl,by simp⟩
  |cons e es ih=>
   intro xs i r hm h
   cases xs with
   |nil=>have:=hm.1;grind
   |cons x xs=>
    have jh:jj p S w ι es xs:=⟨by simpa using hm.1,fun j a b ha hb=>hm.2 (j+1) a b (by simp_all) (by simp_all)⟩
    have hx:=hm.2 0 e x rfl rfl
    simp only[fQ]at h
    rcases h with ⟨h1,rfl⟩|⟨h1,h2⟩
    ·have hs:=Jv _ _ _ h1 hx.1
     refine⟨some (i,x.val),by simp[Instr.findAsking,hs],rfl,?_⟩
     simp
    ·have hs:=Jv _ _ _ h1 hx.1
     obtain⟨e',h3,h4,h5⟩:=ih xs (i+1) r jh h2
     refine⟨e',by simp[Instr.findAsking,hs,h3],h4,?_⟩
     grind
 grind
theorem pC{p:Bool}{kt:TypeId}{k:AV}{u:Value}{d:TypeDesc}(hd:P.underlying kt=some d)(hk:dz P kt k=true)(hu:bP S w ι k u)
 {es:List (AV×AV)} {xs:List MapEntry} {r:Option Nat} (hm:jj p S w ι es xs) (h:fQ P kt k es 0 r):
 ∃e,(Instr.findKey kt u xs).run P w=.ok e w∧e.map (·.1)=r∧∀j y,e=some (j,y)→∃q,xs[j]? =some q∧q.val=y:=by
 by_cases hs:∃fs,d=.struct fs
 ·obtain⟨fs,rfl⟩:=hs
  obtain⟨e,h1,h2,h3⟩:=QC hk hd hu es xs 0 r hm h
  refine⟨e,?_,h2,fun j y he=>by simp_all⟩
  rw[run_findKey_eq w (by rw[hd])]
  exact h1
 ·obtain⟨e,h1,h2,h3⟩:=Tg hd (fun fs e=>hs ⟨fs,e⟩) hu es xs 0 r hm h
  refine⟨e,?_,h2,fun j y he=>by simp_all⟩
  simp only[Instr.findKey,Y7,Y6 hd,Result.andThen_ok,h1,Sem.run_pure]
end
def dw(p:Bool)(S:Nat→Prop)(w:World)(ι:ax)(cs:List AV)(vs:List Value):Prop:=if p=true then bO S w cs vs else az S w ι cs vs
section
variable {p:Bool}{S:Nat→Prop}{w:World}{ι:ax}{P:Program}
theorem bO.append{as bs:List AV}{us vs:List Value}(ha:bO S w as us)(hb:bO S w bs vs):bO S w (as++bs) (us++vs):=by
 refine⟨by simp[ha.1,hb.1],fun j x v hx hv=>?_⟩
 by_cases hj:j<as.length
 ·rw[Yt hj]at hx
  rw[Yt (by have:=ha.1;omega)]at hv
  exact ha.2 j x v hx hv
 ·rw[Yf (by omega)]at hx
  rw[Yf (by have:=ha.1;omega)]at hv
  refine hb.2 (j-as.length) x v hx ?_
  rw[ha.1];exact hv
theorem bO.take{as:List AV}{us:List Value}(n:Nat)(h:bO S w as us):bO S w (as.take n) (us.take n):=by
 refine⟨by simp[h.1],fun j x v hx hv=>?_⟩
 rw[W8]at hx hv
 split at hx
 ·rename_i hlt
  simp only[hlt,Yi]at hv;exact h.2 j x v hx hv
 grind
theorem bO.drop{as:List AV}{us:List Value}(n:Nat)(h:bO S w as us):bO S w (as.drop n) (us.drop n):=by
 refine⟨by simp[h.1],fun j x v hx hv=>?_⟩
 rw[YR]at hx hv
 exact h.2 _ x v hx hv
theorem dw.len{cs:List AV}{vs:List Value}(h:dw p S w ι cs vs):cs.length=vs.length:=by
 cases p
 ·simp only[dw]at h;exact(show az S w ι cs vs from by grind).1
 ·simp only[dw]at h;exact(show bO S w cs vs from by grind).1
theorem dw.rep{cs:List AV}{vs:List Value}(h:dw p S w ι cs vs):az S w ι cs vs:=by
 cases p
 ·simpa[dw]using h
 ·exact(show bO S w cs vs from by simpa[dw]using h).rep
theorem dw.pL{q:Bool}{cs:List AV}{vs:List Value}(h:dw p S w ι cs vs)(hq:q=true→p=true):dw q S w ι cs vs:=by
 cases q
 ·simpa[dw]using h.rep
 simp_all
theorem dw.nil:dw p S w ι [] []:=by cases p<;>simp[dw,az,bO]
theorem dw.append{as bs:List AV}{us vs:List Value}(ha:dw p S w ι as us)(hb:dw p S w ι bs vs):dw p S w ι (as++bs) (us++vs):=by
 cases p
 ·simp only[dw,Yu,Yc]at*;exact az.append ha hb
 ·simp only[dw,Yi]at*;exact bO.append ha hb
theorem dw.take{as:List AV}{us:List Value}(n:Nat)(h:dw p S w ι as us):dw p S w ι (as.take n) (us.take n):=by
 cases p
 ·simp only[dw,Yu,Yc]at*;exact az.take n h
 ·simp only[dw,Yi]at*;exact bO.take n h
theorem dw.drop{as:List AV}{us:List Value}(n:Nat)(h:dw p S w ι as us):dw p S w ι (as.drop n) (us.drop n):=by
 cases p
 ·simp only[dw,Yu,Yc]at*;exact az.drop n h
 ·simp only[dw,Yi]at*;exact bO.drop n h
theorem dw.mono{S':Nat→Prop}{w':World}{ι':ax}(hs:∀b,S b→S' b)(hw:fz S w w')(hι:ι.le ι'){cs:List AV}{vs:List Value}(h:dw p S w ι cs vs):dw p S' w' ι' cs vs:=by
 cases p
 ·simp only[dw,Yu,Yc]at*;exact az.mono hs hw hι h
 ·simp only[dw,Yi]at*;exact bO.mono hs hw h
structure Flat(p:Bool)(S:Nat→Prop)(w:World)(ι:ax)(bo:Nat)(rs:List (List AV))(us:List Value):Prop where
 rl:∀r,r∈rs→r.length=bo
 len:us.length=rs.length*bo
 one:∀v,v∈us→v.oneCell'=true
 rep:dw p S w ι rs.flatten us
theorem G0{bo:Nat}{cell:Nat→Option Value}:∀(rs:List (List AV)) (vals:Nat→List Value) (off:Nat),(∀i,i<rs.length→(vals i).length=bo)→
 (∀(i j:Nat) v,i<rs.length→(vals i)[j]? =some v→cell (off+(i*bo+j))=some v∧v.oneCell'=true)→jy p S w ι rs vals→
 ∃us,Flat p S w ι bo rs us∧∀(j:Nat) v,us[j]? =some v→cell (off+j)=some v:=by
 intro rs
 induction rs with
 |nil=>intro vals off _ _ _;exact⟨[],⟨by simp,by simp,by simp,dw.nil⟩,by simp⟩
 |cons r rs ih=>
  intro vals off hl hc hr
  obtain⟨us,hF,hcell⟩:=ih (fun i=>vals (i+1)) (off+bo) (fun i hi=>hl (i+1) (by grind)) (fun i j v hi hv=>by
   grind) (fun i x hx=>hr (i+1) x (by simp_all))
  have h0:=hl 0 (by simp)
  have hr0:dw p S w ι r (vals 0):=hr 0 r rfl
  refine⟨vals 0++us,⟨?_,?_,?_,?_⟩,?_⟩
  ·intro x hx
   rcases Yh.1 hx with rfl|hx
   ·rw[hr0.len];exact h0
   ·exact hF.rl x hx
  ·rw[Ya,h0,hF.len,Ye,YT];omega
  ·intro v hv
   rcases Yw.1 hv with hv|hv
   ·obtain⟨j,hj⟩:=Wj hv
    grind
   ·exact hF.one v hv
  ·rw[List.flatten_cons];exact hr0.append hF.rep
  grind
theorem UA{bo:Nat}:∀(rs:List (List AV)) (i:Nat) (r:List AV),(∀r,r∈rs→r.length=bo)→rs[i]? =some r→(rs.flatten.drop (i*bo)).take bo=r:=by
 intro rs
 induction rs with
 |nil=>simp
 |cons x rs ih=>
  intro i r hl h
  have hx:=hl x (by simp)
  cases i with
  |zero=>
   simp_all
  |succ i=>
   have:=ih i r (fun y hy=>hl y (by simp[hy])) (by grind)
   rw[List.flatten_cons,YT,Nat.one_mul,Nat.add_comm,←hx,List.drop_append,hx]
   rw[Wu (by omega),YL,Vh]
   exact this
theorem Flat.rows{bo:Nat}{rs:List (List AV)}{us:List Value}(h:Flat p S w ι bo rs us):jy p S w ι rs (fun i=>(us.drop (i*bo)).take bo):=by
 intro i r hr
 have:=(h.rep.drop (i*bo)).take bo
 rw[UA rs i r h.rl hr]at this;exact this
theorem Flat.at{rs:List (List AV)}{us:List Value}{l:Loc}(h:Flat p S w ι l.bo rs us)(hcell:∀(j:Nat) v,us[j]? =some v→eY w l.bd (l.base+j)=some v)
 (qa:l.base+rs.length*l.bo≤l.size):oV w l rs.length (fun i=>(us.drop (i*l.bo)).take l.bo):=by
 refine⟨qa,fun i hi=>?_,fun i j v hi hv=>?_⟩
 ·have:(i+1)*l.bo≤rs.length*l.bo:=Yr _ hi
  rw[YT]at this;simp[h.len];omega
 ·simp only[W8,YR]at hv
  split at hv
  ·exact⟨hcell _ v hv,h.one v (YA hv)⟩
  grind
theorem Flat.append{bo:Nat}{rs qs:List (List AV)}{us vs:List Value}{q:Bool}(h:Flat p S w ι bo rs us)(h':Flat q S w ι bo qs vs):Flat (p&&q) S w ι bo (rs++qs) (us++vs):=by
 refine⟨fun r hr=>?_,by rw[Ya,Ya,h.len,h'.len,YT],fun v hv=>?_,?_⟩
 ·rcases Yw.1 hr with hr|hr
  ·exact h.rl r hr
  ·exact h'.rl r hr
 ·rcases Yw.1 hv with hv|hv
  ·exact h.one v hv
  ·exact h'.one v hv
 ·rw[List.flatten_append]
  exact(h.rep.pL (fun e=>by simp_all)).append (h'.rep.pL (fun e=>by simp_all))
theorem Flat.mono{S':Nat→Prop}{w':World}{ι':ax}(hs:∀b,S b→S' b)(hw:fz S w w')(hι:ι.le ι'){bo:Nat}{rs:List (List AV)}{us:List Value}(h:Flat p S w ι bo rs us):Flat p S' w' ι' bo rs us:=
 ⟨h.rl,h.len,h.one,h.rep.mono hs hw hι⟩
theorem Flat.nil{bo:Nat}:Flat p S w ι bo [] []:=⟨by simp,by simp,by simp,dw.nil⟩
theorem MM{bo n len cap:Nat}{bd off:Nat}{us:List Value}(hl:us.length=n*bo)(h:∀(j:Nat) v,us[j]? =some v→eY w bd (off+j)=some v)
 {w':World} (hw:w'.heap=w.heap):(Builtin.firstCells bo n (.slice (some ⟨bd,off,none⟩) len cap)).run P w'=.ok us.toArray w':=by
 refine run_firstCells_some w' bo n _ len cap us hl (fun j v hv=>?_)
 have:=h j v hv
 rw[v7];simp only[eY,World.cell?,hw]at this⊢;exact this
theorem wK{bo n:Nat}{v:Value}(hn:n*bo=0)(hs:(∃a len cap,v=.slice a len cap)∨(n=0∧∃s,v=.string s))(w':World):
 (Builtin.firstCells bo n v).run P w'=.ok #[] w':=by
 rcases hs with ⟨a,len,cap,rfl⟩|⟨rfl,s,rfl⟩
 ·cases a with
  |none=>rfl
  |some a=>simp[Builtin.firstCells,hn,loadCells,loadCellsFrom]
 ·simp[Builtin.firstCells]
structure nq(P:Program)(w:World)(bo:Nat)(v:Value)(len n:Nat)(us:List Value):Prop where
 len:∀w':World,(Builtin.lenOf v).run P w'=.ok len w'
 cells:∀w':World,w'.heap=w.heap→(Builtin.firstCells bo n v).run P w'=.ok us.toArray w'
theorem SC{rs:List (List AV)}{vals:Nat→List Value}(h:jy p S w ι rs vals)(off n:Nat):jy p S w ι ((rs.drop off).take n) (fun i=>vals (off+i)):=by
 intro i r hr
 rw[W8]at hr
 split at hr
 ·rw[YR]at hr;exact h _ _ hr
 grind
theorem HO{o:Nat}{y:AO}{rs:List (List AV)}{p:Bool}(h:ca S w ι o y)(hy:y=.rows p rs∨(p=true∧y=.cT rs)):
 (ι o=some none∧rs=[])∨∃l vals,ι o=some (some l)∧rs.length=l.dO∧oV w l rs.length vals∧jy p S w ι rs vals:=by
 rcases hy with rfl|⟨rfl,rfl⟩
 ·rcases h with h|⟨l,vals,h1,h2,h3,h4,h5⟩
  all_goals grind
 ·rcases h with h|⟨l,vals,h1,h2,h3,h4,h5⟩
  all_goals grind
theorem Dz{rs:List (List AV)}{vals:Nat→List Value}{l:Loc}(hat:oV w l rs.length vals)(hr:jy p S w ι rs vals)(off n:Nat)(h:off+n≤rs.length):
 ∃us,Flat p S w ι l.bo ((rs.drop off).take n) us∧∀(j:Nat) v,us[j]? =some v→eY w l.bd (l.base+off*l.bo+j)=some v:=by
 have hlen:((rs.drop off).take n).length=n:=by simp;omega
 refine G0 (cell:=eY w l.bd) _ (fun i=>vals (off+i)) (l.base+off*l.bo) (fun i hi=>hat.2.1 _ (by omega)) (fun i j v hi hv=>?_) (SC hr off n)
 have:=hat.2.2 (off+i) j v (by omega) hv
 grind
theorem AI{ol:Nat→Option AO}(hob:∀o x,ol o=some x→ca S w ι o x){x:AV}{v:Value}(hx:bP S w ι x v){rs:List (List AV)}{ro:List Nat}{bo:Nat}
 (hs:dd ol x=some (p,rs,ro)) (hl:∀r,r∈rs→r.length=bo) (n:Nat) (hn:n≤rs.length):
 ∃us,Flat p S w ι bo (rs.take n) us∧nq P w bo v rs.length n us:=by
 have obj:∀(o off len:Nat) (y:AO) (jf:List (List AV)),ol o=some y→(y=.rows p jf∨(p=true∧y=.cT jf))→rs=(jf.drop off).take len→
  ((∃l a cap,ι o=some (some l)∧v=.slice (some a) len cap∧len≤cap∧off+len≤l.dO∧(cap≠0→a=⟨l.bd,l.base+off*l.bo,none⟩))∨(ι o=some none∧len=0∧∃a,v=.slice a 0 0))→
  ∃us,Flat p S w ι bo (rs.take n) us∧nq P w bo v rs.length n us:=by
  intro o off len y jf hy ve hrs hv
  rcases HO (hob o y hy) ve with ⟨q,h0⟩|⟨l,vals,q,hcnt,hat,hrep⟩
  ·rcases hv with ⟨l,a,cap,q',_⟩|⟨q',zN,a,rfl⟩
   ·simp_all
   ·subst h0
    subst zN;simp only[List.drop_nil,V5]at hrs;subst hrs;simp only[YB]at hn
    have:n=0:=by omega
    subst this
    exact⟨[],by simpa using Flat.nil,⟨fun _=>rfl,fun w' _=>wK (by simp) (.inl ⟨_,_,_,rfl⟩) w'⟩⟩
  ·rcases hv with ⟨l',a,cap,q',rfl,h1,h2,ha⟩|⟨q',_⟩
   ·rw[q]at q';injection q' with q';injection q' with q';subst q'
    have hlen:rs.length=len:=by rw[hrs];simp;omega
    by_cases zI:n=0
    ·subst zI
     refine⟨[],by simpa using Flat.nil,⟨fun _=>by rw[hlen];rfl,fun w' _=>wK (by simp) (.inl ⟨_,_,_,rfl⟩) w'⟩⟩
    ·have Ft:off+n≤jf.length:=by omega
     obtain⟨us,hF,hc⟩:=Dz hat hrep off n Ft
     have e:rs.take n=(jf.drop off).take n:=by rw[hrs,List.take_take,W0 (by omega)]
     have hes:bo=l.bo:=by
      have hne:rs.take n≠[]:=by intro e;have:=YF List.length e;rw[YD,YB]at this;omega
      obtain⟨r,hr⟩:=Wy _ hne
      have h3:=hl r (YN hr)
      rw[e]at hr
      have h4:=hF.rl r hr
      omega
     subst hes;rw[e]
     have hlt:((jf.drop off).take n).length=n:=by simp;omega
     refine⟨us,hF,⟨fun _=>by rw[hlen];rfl,fun w' hw=>?_⟩⟩
     rw[ha (by omega)]
     exact MM (by rw[hF.len,hlt]) hc hw
   simp_all
 cases x with
 |sl xs=>
  simp only[dd,Y2,Wv]at hs
  obtain⟨rfl,rfl,rfl⟩:=hs
  cases hx with
  |bI _ _ h=>
   generalize gp:v=v' at h
   cases h with
   |fI=>
    subst gp;simp only[YB]at hn
    have:n=0:=by omega
    subst this
    exact⟨[],by simpa using Flat.nil,⟨fun _=>rfl,fun w' _=>wK (by simp) (.inl ⟨_,_,_,rfl⟩) w'⟩⟩
   |sl _ a cap sz vals hcap hlim hS hlen hcell hrep=>
    subst gp
    by_cases zI:n=0
    ·subst zI
     exact⟨[],by simpa using Flat.nil,⟨fun _=>rfl,fun w' _=>wK (by simp) (.inl ⟨_,_,_,rfl⟩) w'⟩⟩
    ·have hne:xs≠[]:=by intro e;subst e;simp at hn;omega
     obtain⟨r,hr⟩:=Wy _ hne
     obtain⟨i,hi⟩:=Wj hr
     have hes:bo=sz:=by rw[←hl r hr];exact(hlen i r hi).1
     subst hes
     have pW:jy true S w ι xs vals:=by
      intro i r jD;simp only[Yi]
      refine⟨by grind,fun j x v h1 h2=>hrep i j r x v jD h1 h2⟩
     have hlt:(xs.take n).length=n:=by simp;omega
     obtain⟨us,hF,hc⟩:=G0 (cell:=eY w a.block) (xs.take n) vals a.off (fun i hi=>by
      grind) (fun i j v hi hv=>hcell i j v (by omega) hv) (fun i r jD=>by
      rw[W8]at jD
      split at jD
      ·exact pW i r jD
      grind)
     refine⟨us,hF,⟨fun _=>rfl,fun w' hw=>?_⟩⟩
     obtain⟨bl,of,sp⟩:=a
     have hsp:=(hS hne).2
     simp only at hsp;subst hsp
     exact MM (by rw[hF.len,hlt]) hc hw
 |dq=>
  simp only[dd,Y2,Wv]at hs
  obtain⟨rfl,rfl,rfl⟩:=hs
  simp only[YB]at hn
  have:n=0:=by omega
  subst this
  cases hx with
  |bI _ _ h=>
   cases h with
   |dq a=>exact⟨[],by simpa using Flat.nil,⟨fun _=>rfl,fun w' _=>wK (by simp) (.inl ⟨_,_,_,rfl⟩) w'⟩⟩
 |str l=>
  simp only[dd,Y2,Wv]at hs
  obtain⟨rfl,rfl,rfl⟩:=hs
  have hv:=hx.cx
  subst hv;simp only[Yb]at hn
  have p4:∀w':World,(Builtin.lenOf (.string ⟨l.toArray⟩)).run P w'=.ok (l.map fun b=>[AV.int .u8 b.toNat]).length w':=by
   intro w'
   have:(⟨l.toArray⟩:ByteArray).size=l.length:=by show l.toArray.size=_;simp
   simp[Builtin.lenOf,this]
  by_cases zI:n=0
  ·subst zI
   exact⟨[],by simpa using Flat.nil,⟨p4,fun w' _=>wK (by simp) (.inr ⟨rfl,_,rfl⟩) w'⟩⟩
  ·have hes:bo=1:=by
    cases l with
    |nil=>simp_all
    |cons b l=>simp_all
   subst hes
   refine⟨(l.take n).map fun b=>Value.int .u8 b.toNat,⟨fun r hr=>hl r (YN hr),by simp,fun v hv=>?_,?_⟩,⟨p4,fun w' _=>?_⟩⟩
   ·obtain⟨b,_,rfl⟩:=YM.1 hv;rfl
   ·have hfl:((l.map fun b=>[AV.int .u8 b.toNat]).take n).flatten=(l.take n).map fun b=>AV.int .u8 b.toNat:=by
     rw[←List.map_take];generalize l.take n=m
     induction m with
     |nil=>rfl
     |cons b m ih=>simp[ih]
    rw[hfl];simp only[dw,Yi]
    refine⟨by simp,fun j x v h1 h2=>?_⟩
    rw[Yn,Yj]at h1 h2
    obtain⟨b,h1,rfl⟩:=h1
    obtain⟨b',h2,rfl⟩:=h2
    rw[h1]at h2;injection h2 with h2;subst h2
    exact .int _ _
   ·simp only[Builtin.firstCells,Sem.run_pure]
    simp
 |an o z=>
  simp only[dd]at hs
  have key:∀y jf,ol o=some y→(y=.rows p jf∨(p=true∧y=.cT jf))→rs=jf→∃us,Flat p S w ι bo (rs.take n) us∧nq P w bo v rs.length n us:=by
   intro y jf hy ve hrs
   refine obj o 0 jf.length y jf hy ve (by simp_all) ?_
   rcases kp hx with ⟨l,a,cap,q,rfl,h1,h2,h3,_,ha⟩|⟨q,a,rfl⟩
   ·have hc:jf.length=l.dO:=by
     rcases HO (hob o y hy) ve with ⟨q',_⟩|⟨l',vals,q',hcnt,_⟩
     ·simp_all
     ·simp_all
    grind
   ·have hc:jf=[]:=by
     rcases HO (hob o y hy) ve with ⟨_,h⟩|⟨l',vals,q',hcnt,_⟩
     ·exact h
     ·simp_all
    simp_all
  grind
 |eN o off len room=>
  simp only[dd]at hs
  have key:∀y jf,ol o=some y→(y=.rows p jf∨(p=true∧y=.cT jf))→rs=(jf.drop off).take len→∃us,Flat p S w ι bo (rs.take n) us∧nq P w bo v rs.length n us:=by
   intro y jf hy ve hrs
   refine obj o off len y jf hy ve hrs ?_
   rcases vY hx with ⟨l,a,cap,q,rfl,h1,h2,h3,h4,h5,ha⟩|⟨q,rfl,rfl,rfl,a,rfl⟩
   ·grind
   ·simp_all
  grind
 |_=>simp[dd]at hs
end
end Go.Ab
