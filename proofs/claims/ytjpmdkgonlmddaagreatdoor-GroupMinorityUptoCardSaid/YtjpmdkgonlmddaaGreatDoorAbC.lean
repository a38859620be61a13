import Derived.Test.YtjpmdkgonlmddaaGreatDoorAbB
import Derived.WideKeyRuns
import Derived.Deep.AppendSrc
set_option linter.unusedVariables false
namespace Go.Ab
section
variable {S:Nat→Prop}{w:World}{ι:Imap}{P:Program}
theorem Zh2{row:List AV}{vals:List Value}(hL:RepL S w ι row vals){blk b0:Nat}(hcell:∀(j:Nat) v,vals[j]? =some v→Zbo w blk (b0+j)=some v∧v.oneCell'=true)
 {t:TypeId} {c:Nat} {v:AV} (hl:Zgh P t row c=some v):∃v',(loadVar t ⟨blk,b0+c,none⟩).run P w=.ok v' w∧Rep S w ι v v':=by
 unfold Zgh at hl;split at hl
 ·rename_i n hk
  split at hl
  ·rename_i hc
   injection hl with hl;subst hl
   obtain⟨h1,h2⟩:=Zd2 hk w
   have hr:=(hL.drop c).take n
   have hlen:((vals.drop c).take n).length=n:=by
    have:=hL.1
    simp;omega
   have hload:=run_loadCells_list (P:=P) w ⟨blk,b0+c,none⟩ ((vals.drop c).take n) (fun j v hv=>by
    rw[Zgn]
    grind)
   rw[hlen]at hload
   refine⟨.agg ((vals.drop c).take n).toArray,?_,RepL.agg (by omega)⟩
   unfold loadVar;simp_all
  grind
 ·rename_i n hk
  obtain⟨h1,h2⟩:=Zd2 hk w
  obtain⟨v',hv,hr⟩:=hL.get hl
  refine⟨v',?_,hr⟩
  have:=(hcell _ _ hv).1
  unfold loadVar;simp_all
 grind
theorem Zcy.get{p:Bool}{rs:List (List AV)}{vals:Nat→List Value}(h:Zcy p S w ι rs vals){i:Nat}{row:List AV}(hr:rs[i]? =some row):
 RepL S w ι row (vals i):=by
 have:=h i row hr
 cases p
 ·simp_all
 ·simp only[Yh]at this;exact this.rep
theorem Zap{α:Type}{l:List α}{i:Nat}{x:α}(h:l[i]? =some x):i<l.length:=by
 grind
theorem ZhZ{o:Nat}{y:AO}{rs:List (List AV)}(h:ObjOk S w ι o y)(hy:y=.rows true rs∨y=.rows false rs∨y=.froz rs):
 (ι o=some none∧rs=[])∨∃l vals,ι o=some (some l)∧rs.length=l.cnt∧ZgS w l rs.length vals∧∀(i:Nat) row,rs[i]? =some row→RepL S w ι row (vals i):=by
 rcases hy with rfl|rfl|rfl
 ·rcases h with h|⟨l,vals,h1,h2,h3,h4,h5⟩
  ·grind
  ·exact .inr ⟨l,vals,h1,h2,h4,fun i row hr=>h5.get hr⟩
 ·rcases h with h|⟨l,vals,h1,h2,h3,h4,h5⟩
  ·grind
  ·exact .inr ⟨l,vals,h1,h2,h4,fun i row hr=>h5.get hr⟩
 ·rcases h with h|⟨l,vals,h1,h2,h3,h4,h5⟩
  ·grind
  ·exact .inr ⟨l,vals,h1,h2,h4,fun i row hr=>h5.get hr⟩
theorem ZrE{row:List AV}{c:Nat}{v:Value}(h:Rep S w ι (.rp row c) v):
 ∃blk base vals,v=.pointer (some ⟨blk,base+c,none⟩)∧S blk∧IRepL S w row vals∧∀(j:Nat) v,vals[j]? =some v→Zbo w blk (base+j)=some v∧v.oneCell'=true:=by
 cases h with
 |imm _ _ h=>
  cases h with
  |rp _ _ blk base vals hS hl hcell h=>exact⟨blk,base,vals,rfl,hS,⟨hl,h⟩,hcell⟩
theorem ZsY{xs:List (List AV)}{v:Value}(h:Rep S w ι (.sl xs) v){i:Nat}{row:List AV}(hr:xs[i]? =some row):
 ∃(a:Addr) (cap sz:Nat) (vals:List Value),v=.slice (some a) xs.length cap∧a.spot=none∧S a.block∧row.length=sz∧IRepL S w row vals∧
  ∀(j:Nat) v,vals[j]? =some v→Zbo w a.block (a.off+i*sz+j)=some v∧v.oneCell'=true:=by
 cases h with
 |imm _ _ h=>
  cases h with
  |snil=>simp at hr
  |sl _ a cap sz vals hcap hlim hS hlen hcell hrep=>
   have hne:xs≠[]:=by intro e;subst e;simp at hr
   have hl:=hlen i row hr
   exact⟨a,cap,sz,vals i,rfl,(hS hne).2,(hS hne).1,hl.1,⟨by omega,fun j x v hx hv=>hrep i j row x v hr hx hv⟩,
    fun j v hv=>by grind⟩
theorem Zoq:∀(d:Nat) (t:TypeId) (xs ys:List AV) (c:Nat) (r:Bool),Zdj P d t xs ys c=some r→Zdi P d t=true→
 ∀(us vs:Array Value),RepL S w ι xs us.toList→RepL S w ι ys vs.toList→c+P.cellsOf t≤xs.length→c+P.cellsOf t≤ys.length→
 ∀(x y:Value),(part t us c).run P w=.ok x w→(part t vs c).run P w=.ok y w→(Op.equalIn (d+1) t x y).run P w=.ok r w:=by
 intro d
 induction d with
 |zero=>intro t xs ys c r h;simp[Zdj]at h
 |succ d ih=>
  intro t xs ys c r h hp us vs hu hv hcx hcy x y hx hy;unfold Zdj at h;split at h
  ·rename_i k ht
   have hag:(isAgg t).run P w=.ok false w:=by unfold isAgg;simp[Y5 ht]
   split at h
   ·rename_i k1 a k2 b h1 h2
    split at h
    ·rename_i e;subst e
     injection h with h;subst h
     obtain⟨u,hu1,hu2⟩:=hu.get h1
     obtain⟨v,hv1,hv2⟩:=hv.get h2
     have e1:us[c]? =some u:=by simpa using hu1
     have e2:vs[c]? =some v:=by simpa using hv1
     unfold part at hx hy;simp only[Y6,hag,Result.andThen_ok,Yr,Y9,e1,e2,Sem.run_pure,V4,and_true]at hx hy;subst hx;subst hy;rw[hu2.int_inv,hv2.int_inv];exact run_equalIn_int w (d+1) t k1 k a b ht
    ·cases h
   ·cases h
  ·rename_i ht
   have hag:(isAgg t).run P w=.ok false w:=by unfold isAgg;simp[Y5 ht]
   split at h
   ·rename_i a b h1 h2
    injection h with h;subst h
    obtain⟨u,hu1,hu2⟩:=hu.get h1
    obtain⟨v,hv1,hv2⟩:=hv.get h2
    have e1:us[c]? =some u:=by simpa using hu1
    have e2:vs[c]? =some v:=by simpa using hv1
    unfold part at hx hy;simp only[Y6,hag,Result.andThen_ok,Yr,Y9,e1,e2,Sem.run_pure,V4,and_true]at hx hy;subst hx;subst hy;rw[hu2.str_inv,hv2.str_inv];rw[run_equalIn_string w (d+1) t _ _ ht];simp
   ·cases h
  ·rename_i ht
   have hag:(isAgg t).run P w=.ok false w:=by unfold isAgg;simp[Y5 ht]
   split at h
   ·rename_i a b h1 h2
    injection h with h;subst h
    obtain⟨u,hu1,hu2⟩:=hu.get h1
    obtain⟨v,hv1,hv2⟩:=hv.get h2
    have e1:us[c]? =some u:=by simpa using hu1
    have e2:vs[c]? =some v:=by simpa using hv1
    unfold part at hx hy;simp only[Y6,hag,Result.andThen_ok,Yr,Y9,e1,e2,Sem.run_pure,V4,and_true]at hx hy;subst hx;subst hy;rw[hu2.bool_inv,hv2.bool_inv];exact run_equalIn_bool w (d+1) t a b ht
   ·cases h
  ·rename_i fs ht
   unfold Zdi at hp;rw[ht]at hp;simp only[Y8,WS,YP]at hp
   obtain⟨⟨hst,hkind⟩,hall⟩:=hp
   have hag:(isAgg t).run P w=.ok true w:=by unfold isAgg;simp[Y5 ht]
   have hsz:(sizeOf t).run P w=.ok (P.cellsOf t) w:=by
    obtain⟨⟨b,n⟩,hk⟩:=YQ.1 hkind
    have:=(Zd2 hk w).2
    unfold kindT at hk;split at hk
    ·cases hk
    ·split at hk
     ·cases hk
     ·rename_i i hi
      rw[Zbs hi];simp[Program.cellsOf,hi]
   unfold part at hx hy;simp only[Y6,hag,Result.andThen_ok,Yh,hsz,Sem.run_pure,V4,and_true]at hx hy;subst hx;subst hy
   have hfo:P.fieldsOf t=fs:=by simp[Program.fieldsOf,ht]
   rw[run_equalIn_struct w (d+1) t _ _ (by simp_all) hst,hfo]
   have hall':∀f∈fs.toList,(f.name != "_" &&Zdi P d f.type&&decide (f.offset+P.cellsOf f.type≤P.cellsOf t))=true:=by
    intro f hf
    have:=Array.all_eq_true.1 hall
    obtain⟨i,hi,he⟩:=YY hf
    have:=this i (by omega)
    simp only[Array.getElem_toList]at he;rw[he]at this;exact this
   clear hall;generalize fs.toList=l at h hall';clear ht hfo
   induction l generalizing r with
   |nil=>
    simp only[eqFsG,Y1]at h;subst h;rfl
   |cons f l ihl=>
    simp only[eqFsG]at h;split at h
    ·rename_i a b ha hb
     injection h with h;subst h
     have hf:=hall' f (by simp)
     simp only[Y8,Ym]at hf
     obtain⟨⟨hf1,hf2⟩,hf3⟩:=hf
     have hname:f.name≠ "_" :=by simpa using hf1
     have hpart:∀(us:Array Value) (zs:List AV),RepL S w ι zs us.toList→c+P.cellsOf t≤zs.length→
      ∃q,(part f.type us (c+f.offset)).run P w=.ok q w∧(part f.type (us.extract c (c+P.cellsOf t)) f.offset).run P w=.ok q w:=by
      intro us zs hz hzl
      have hzl':=hz.1
      simp only[Array.length_toList]at hzl'
      have one:(isAgg f.type).run P w=.ok false w→P.cellsOf f.type=1→∃q,(part f.type us (c+f.offset)).run P w=.ok q w∧(part f.type (us.extract c (c+P.cellsOf t)) f.offset).run P w=.ok q w:=by
       intro hagf hone
       have hlt:c+f.offset<us.size:=by omega
       have h1:us[c+f.offset]? =some us[c+f.offset]:=YJ hlt
       have h2:(us.extract c (c+P.cellsOf t))[f.offset]? =some us[c+f.offset]:=by
        rw[Array.getElem?_extract,if_pos (by omega),h1]
       refine⟨us[c+f.offset],?_,?_⟩
       ·unfold part
        simp_all
       ·unfold part
        simp_all
      cases d with
      |zero=>simp[Zdi]at hf2
      |succ d=>
       unfold Zdi at hf2;split at hf2
       ·rename_i fs' hft
        simp only[Y8]at hf2
        obtain⟨⟨bb,n⟩,hk⟩:=YQ.1 hf2.1.2
        have hszf:(sizeOf f.type).run P w=.ok (P.cellsOf f.type) w:=by
         unfold kindT at hk;split at hk
         ·cases hk
         ·split at hk
          ·cases hk
          ·rename_i i hi
           rw[Zbs hi];simp[Program.cellsOf,hi]
        have hagf:(isAgg f.type).run P w=.ok true w:=by unfold isAgg;simp[Y5 hft]
        refine⟨.agg (us.extract (c+f.offset) (c+f.offset+P.cellsOf f.type)),by unfold part;simp_all,?_⟩
        unfold part;simp only[Y6,hagf,Result.andThen_ok,Yh,hszf,Sem.run_pure,Array.extract_extract]
        grind
       ·rename_i kk hft
        exact one (by unfold isAgg;simp[Y5 hft]) (by simp_all)
       ·rename_i hft
        exact one (by unfold isAgg;simp[Y5 hft]) (by simp_all)
       ·rename_i hft
        exact one (by unfold isAgg;simp[Y5 hft]) (by simp_all)
       simp_all
     obtain⟨q1,hq1,hq1'⟩:=hpart us xs hu hcx
     obtain⟨q2,hq2,hq2'⟩:=hpart vs ys hv hcy
     have he:=ih f.type xs ys (c+f.offset) a ha hf2 us vs hu hv (by omega) (by omega) q1 q2 hq1 hq2
     simp only[Op.eqFields,hname,ne_eq,not_false_iff,Yh,Y6,hq1',Result.andThen_ok,hq2',he];cases a
     all_goals simp_all
    ·cases h
  ·cases h
end
def Goes(C:Cx)(un:Nat→Prop)(id:Nat)(o:Oper)(f:FS)(v:AV)(U:List (Nat×Option AO))(next:Act→World→Prop):Prop:=
 ∀S' ι' a' w',Inv C S' ι' (fun x=>un x∧¬(id≤x∧x<id+W)) (f.upd o.dst v U) a' w'→next a' w'
section
variable {C:Cx}{S:Nat→Prop}{w:World}{ι:Imap}{P:Program}{un:Nat→Prop}{f:FS}{a:Act}{id:Nat}{o:Oper}
 {next:Act→World→Prop} {Q:Exit→Act→World→Prop}
theorem Inv.goes{v:AV}{U:List (Nat×Option AO)}{S':Nat→Prop}{ι':Imap}{un':Nat→Prop}{w':World}{v':Value}
 (hn:Goes C un id o f v U next) (h:Inv C S' ι' un' {f with os:=updO f.os U} a w') (hu:∀x,un x∧¬(id≤x∧x<id+W)→un' x)
 (hv:Rep S' w' ι' v v') (hd:∀d,o.dst=some d→C.N.lo≤d∧d<C.N.n):next (a.put o.dst v') w':=by
 refine hn S' ι' _ w' ?_
 have:=(h.put (dst:=o.dst) hv hd).less hu
 have e:({f with os:=updO f.os U}:FS).put o.dst v=f.upd o.dst v U:=by
  unfold FS.upd;cases o.dst<;>rfl
 simp_all
theorem Inv.goes0{v:AV}{v':Value}(hn:Goes C un id o f v [] next)(h:Inv C S ι un f a w)
 (hv:Rep S w ι v v') (hd:∀d,o.dst=some d→C.N.lo≤d∧d<C.N.n):next (a.put o.dst v') w:=
 Inv.goes hn (U:=[]) (S':=S) (ι':=ι) (un':=un) h (fun _ hx=>hx.1) hv hd
theorem ZaK{v:AV}{v':Value}(hn:Goes C un id o f v [] next)(h:Inv C S ι un f a w)(hd:∀d,o.dst=some d→C.N.lo≤d∧d<C.N.n)
 (hrun:(execOp a.eval o).run P w=.ok (.value v') w) (hv:Rep S w ι v v'):o.wp P a w next Q:=by
 unfold Oper.wp;rw[hrun,Oper.upon_value];exact Inv.goes0 hn h hv hd
theorem ZrQ{cs:List AV}{blk:Obj}{vs:Array Value}{t:TypeId}(hn:Goes C un id o f (.ptr id 0 0) [(id,some (.rows false [cs]))] next)
 (h:Inv C S ι un f a w) (hd:∀d,o.dst=some d→C.N.lo≤d∧d<C.N.n) (hid:∀x,id≤x→x<id+W→un x)
 (hb:blk=.cells vs t) (hvs:RepL S w ι cs vs.toList) (hone:∀v,v∈vs.toList→v.oneCell'=true) (hrun:(execOp a.eval o).run P w=.ok (.value (.pointer (some ⟨w.heap.size,0,none⟩))) (w.alloc blk)):
 o.wp P a w next Q:=by
 unfold Oper.wp;rw[hrun,Oper.upon_value];subst hb
 have hlen:=hvs.1
 simp only[Array.length_toList]at hlen
 obtain⟨ι',hle,hι',hinv⟩:=h.alloc (hid id (Yg _) (by simp[W])) (.cells vs t) ⟨w.heap.size,0,cs.length,cs.length,1⟩ rfl (.rows false [cs]) rfl (fun _ h=>Za7 rfl h) (fun ι' hle hι'=>by
  refine .inr ⟨_,fun _=>vs.toList,hι',rfl,fun j=>⟨fun hj=>?_,fun _=>by simp⟩,⟨by simp,fun i hi=>by grind,fun i j v hi hv=>?_⟩,fun i r hr=>?_⟩
  ·simp_all
  ·simp only[List.length_singleton]at hi
   have:i=0:=by omega
   subst this;simp only[V6,YR,Zbo]
   rw[World.cell?_alloc_new]
   grind
  ·have:i=0:=by have:=Zap hr;simp at this;omega
   subst this
   simp only[List.getElem?_cons_zero,Y1]at hr
   subst hr;simp only[Yr,Y9]
   exact hvs.mono (fun _ x=>x) (fun b hb=>Zem w _ b (h.sb b hb)) hle)
 refine Inv.goes hn hinv (fun x hx=>⟨hx.1,fun e=>hx.2 ⟨by omega,by subst e;simp[W]⟩⟩) ?_ hd
 have:=Rep.ptr (S:=S) (w:=w.alloc (.cells vs t)) (ι:=ι') id 0 0 _ hι'
 simp_all
theorem ZfF{cs:List AV}{vs:List Value}(h:RepL S w ι cs vs)(hc:cs.all Zee=true):∀v,v∈vs→v.oneCell'=true:=by
 intro v hv
 obtain⟨j,hj⟩:=Wj hv
 have hjc:j<cs.length:=by rw[h.1];exact Zap hj
 exact(h.2 j _ v (Y3 hjc) hj).cell (YF.1 hc _ (We hjc))
theorem ZlO{t:TypeId}{cs:List AV}(h:zeroA P t=some cs):
 ∃z,(zeroValue t).run P w=.ok z w∧RepL S w ι cs z.cells.toList∧∀v,v∈z.cells.toList→v.oneCell'=true:=by
 unfold zeroA at h;split at h
 ·cases h
 ·rename_i i hi
  split at h
  ·rename_i z hz
   have h9:=ZeD (S:=S) (w:=w) (ι:=ι) h (.imm _ _ (Zfd z))
   exact⟨z,by simp[zeroValue,typeInfo,hi,hz],h9.1,ZfF h9.1 h9.2⟩
  ·cases h
theorem Zjc{t e:TypeId}{ab:Addr}{len cap:Nat}{k:IntKind}{n:Int}{b:Bool}{sz:Nat}(ht:P.underlying t=some (.slice e))(hk:kindT P e=some (b,sz))
 (h0:0≤n) (h1:n<len) (hs:ab.spot=none):(Instr.indexAt t (.slice (some ab) len cap) (.int k n)).run P w=.ok (.pointer (some ⟨ab.block,ab.off+n.toNat*sz,none⟩)) w:=by
 have hel:P.elem t=e:=by simp[Program.elem,ht]
 have:=run_indexAt_slice (P:=P) w t ab len cap k n (by simp_all)
 rw[this,hel,if_pos ⟨h0,h1⟩,(Zd2 hk w).2]
 obtain⟨bl,of,sp⟩:=ab
 simp only at hs;subst hs;simp only[Result.andThen_ok,Zgn]
theorem Zka{t e:TypeId}{bl of len:Nat}{k:IntKind}{n:Int}{b:Bool}{sz:Nat}(ht:P.underlying t=some (.array len e))(hk:kindT P e=some (b,sz))
 (h0:0≤n) (h1:n<len):(Instr.indexAt t (.pointer (some ⟨bl,of,none⟩)) (.int k n)).run P w=.ok (.pointer (some ⟨bl,of+n.toNat*sz,none⟩)) w:=by
 have hel:P.elem t=e:=by simp[Program.elem,ht]
 have hal:P.arrayLen t=len:=by simp[Program.arrayLen,ht]
 have:=run_indexAt_array (P:=P) w t ⟨bl,of,none⟩ k n (by simp_all)
 rw[this,hel,hal,if_pos ⟨h0,h1⟩,(Zd2 hk w).2];simp only[Result.andThen_ok,Zgn]
theorem Zil{o' off len room:Nat}{v:Value}(h:Rep S w ι (.osl o' off len room) v):
 (∃l a cap,ι o'=some (some l)∧v=.slice (some a) len cap∧len≤room∧room≤cap∧l.base+(off+cap)*l.esz≤l.size∧len≤LIM∧off+room≤l.cnt∧
  (cap≠0→a=⟨l.blk,l.base+off*l.esz,none⟩))∨(ι o'=some none∧off=0∧len=0∧room=0∧∃a,v=.slice a 0 0):=by
 cases h with
 |imm _ _ h=>cases h
 |osl _ _ _ _ cap a l h h1 h2 h3 h4 h5 ha=>grind
 |oslv _ a h=>simp_all
theorem ZcP{o' z:Nat}{v:Value}(h:Rep S w ι (.osw o' z) v):
 (∃l a cap,ι o'=some (some l)∧v=.slice (some a) l.cnt cap∧l.cnt≤cap∧l.base+cap*l.esz≤l.size∧l.cnt≤LIM∧(l.cnt=0→cap≠0→l.esz=z)∧
  (cap≠0→a=⟨l.blk,l.base,none⟩))∨(ι o'=some none∧∃a,v=.slice a 0 0):=by
 cases h with
 |imm _ _ h=>cases h
 |osw _ _ cap a l h h2 h3 h4 hz ha=>grind
 |oswv _ _ a h=>simp_all
end
section
variable {S:Nat→Prop}{w:World}{ι:Imap}{P:Program}
theorem ZsC{d d':Nat}(ih:∀t xs ys c r,Zdj P d t xs ys c=some r→Zdj P d' t xs ys c=some r):
 ∀(l:List Field) (xs ys:List AV) (c:Nat) (r:Bool),eqFsG (Zdj P d) l xs ys c=some r→eqFsG (Zdj P d') l xs ys c=some r:=by
 intro l
 induction l with
 |nil=>intro xs ys c r h;simpa[eqFsG]using h
 |cons f l ihl=>
  intro xs ys c r h;simp only[eqFsG]at h⊢
  grind
theorem Zm5:∀(d:Nat) (t:TypeId) (xs ys:List AV) (c:Nat) (r:Bool),Zdj P d t xs ys c=some r→Zdj P (d+1) t xs ys c=some r:=by
 intro d
 induction d with
 |zero=>intro t xs ys c r h;simp[Zdj]at h
 |succ d ih=>
  intro t xs ys c r h;unfold Zdj at h;unfold Zdj;split at h
  ·exact h
  ·exact h
  ·exact h
  ·exact ZsC ih _ _ _ _ _ h
  ·cases h
theorem Zop(k:Nat):∀(d:Nat) (t:TypeId) (xs ys:List AV) (c:Nat) (r:Bool),Zdj P d t xs ys c=some r→Zdj P (d+k) t xs ys c=some r:=by
 induction k with
 |zero=>simp
 |succ k ih=>intro d t xs ys c r h;exact Zm5 (d+k) t xs ys c r (ih d t xs ys c r h)
theorem ZmS:∀(d:Nat) (t:TypeId),Zdi P d t=true→Zdi P (d+1) t=true:=by
 intro d
 induction d with
 |zero=>intro t h;simp[Zdi]at h
 |succ d ih=>
  intro t h;unfold Zdi at h;unfold Zdi
  grind
theorem Zod(k:Nat):∀(d:Nat) (t:TypeId),Zdi P d t=true→Zdi P (d+k) t=true:=by
 induction k with
 |zero=>simp
 |succ k ih=>intro d t h;exact ZmS (d+k) t (ih d t h)
theorem Zqr{t:TypeId}{cs ds:List AV}{us vs:Array Value}{r:Bool}(h1:RepL S w ι cs us.toList)(h2:RepL S w ι ds vs.toList)(hp:Zdi P 20 t=true)
 (hc:cs.length=P.cellsOf t) (hd:ds.length=P.cellsOf t) (he:Zdj P 20 t cs ds 0=some r) (hst:∃fs,P.underlying t=some (.struct fs)):(Op.equalIn 10000 t (.agg us) (.agg vs)).run P w=.ok r w:=by
 have l1:=h1.1;have l2:=h2.1
 simp only[Array.length_toList]at l1 l2
 obtain⟨fs,ht⟩:=hst
 have hk:(kindT P t).isSome=true:=by
  unfold Zdi at hp;rw[ht]at hp;simp only[Y8]at hp;exact hp.1.2
 obtain⟨⟨b,n⟩,hk⟩:=YQ.1 hk
 obtain⟨ha,hs⟩:=Zd2 hk w
 have hb:b=true:=by
  unfold kindT at hk;rw[ht]at hk;simp only at hk;split at hk
  ·cases hk
  ·simp_all
 have hn:n=P.cellsOf t:=by
  unfold kindT at hk;rw[ht]at hk;simp only at hk;split at hk
  ·cases hk
  ·rename_i i hi
   simp only[Y1,Ws]at hk;rw[←hk.2];simp[Program.cellsOf,hi]
 subst hb
 have hpart:∀(xs:Array Value),xs.size=P.cellsOf t→(part t xs 0).run P w=.ok (.agg xs) w:=by
  intro xs hx;unfold part;simp only[Y6,ha,Result.andThen_ok,Yh,hs,Sem.run_pure,YR,hn,←hx];congr 2;simp
 exact Zoq 9999 t cs ds 0 r (Zop 9979 20 t cs ds 0 r he) (Zod 9979 20 t hp) us vs h1 h2 (by omega) (by omega) _ _ (hpart us (by omega)) (hpart vs (by omega))
def bndV(o:Option Value)(d n:Nat):Prop:=
 match o with
 |none=>n=d
 |some v=>∃k i,v=.int k i∧0≤i∧i.toNat=n
theorem ZkJ{isS:Bool}{len cap a b:Nat}{lo hi:Option Value}(ha:bndV lo 0 a)(hb:bndV hi len b)(hab:a≤b)(hbc:b≤cap):
 (Instr.sliceBounds isS len cap lo hi none).run P w=.ok (a,b,cap) w:=by
 unfold Instr.sliceBounds
 cases hi with
 |none=>
  simp only[bndV]at hb;subst hb
  cases lo with
  |none=>simp only[bndV]at ha;simp_all
  |some v=>
   obtain⟨k,i,rfl,h0,rfl⟩:=ha
   simp only[Y6,Sem.run_pure,Result.andThen_ok]
   rw[V8 w k i b _ h0 (by omega)]
   simp
 |some u=>
  obtain⟨k,i,rfl,h0,rfl⟩:=hb
  simp only[Y6,Sem.run_pure,Result.andThen_ok]
  rw[V8 w k i cap _ h0 (by omega)]
  cases lo with
  |none=>simp only[bndV]at ha;simp_all
  |some v=>
   obtain⟨k',i',rfl,h0',rfl⟩:=ha
   simp only[Y6,Sem.run_pure,Result.andThen_ok]
   rw[V8 w k' i' i.toNat _ h0' (by omega)]
   simp
theorem Zo1{t:TypeId}{l:List UInt8}{a b:Nat}{lo hi:Option Value}(ht:P.underlying t=some .string)(ha:bndV lo 0 a)(hb:bndV hi l.length b)(hab:a≤b)(hbl:b≤l.length):
 (Instr.sliceAt t (.string ⟨l.toArray⟩) lo hi none).run P w=.ok (.string ⟨((l.take b).drop a).toArray⟩) w:=by
 have e:(⟨l.toArray⟩:ByteArray).size=l.length:=by show l.toArray.size=_;simp
 have hx:((⟨l.toArray⟩:ByteArray).extract a b)=⟨((l.take b).drop a).toArray⟩:=by
  apply ByteArray.ext;simp[ByteArray.data_extract,List.extract_eq_take_drop,List.drop_take]
 unfold Instr.sliceAt;simp only[Y6,Y5 ht,Result.andThen_ok];unfold Instr.slice;simp only[Y6,Y5 ht,Result.andThen_ok,Option.isSome_none,Yr,Y9,Sem.run_pure,e,ZkJ ha hb hab hbl,hx]
theorem ZgV{t e:TypeId}{ad:Option Addr}{len cap a b sz:Nat}{lo hi:Option Value}(ht:P.underlying t=some (.slice e)){i:TypeInfo}(hinf:P.info? e=some i)(hsz:i.size=sz)
 (ha:bndV lo 0 a) (hb:bndV hi len b) (hab:a≤b) (hbc:b≤cap):
 (Instr.sliceAt t (.slice ad len cap) lo hi none).run P w=.ok (.slice (if cap=a then ad else ad.map (·.add (a*sz))) (b-a) (cap-a)) w:=by
 unfold Instr.sliceAt;simp only[Y6,Y5 ht,Result.andThen_ok];unfold Instr.slice;simp only[Y6,Y5 ht,Result.andThen_ok,ZkJ ha hb hab hbc,Zbs hinf,hsz,Sem.run_pure]
theorem Zn7{t e:TypeId}{ad:Option Addr}{len cap sz:Nat}{lo:Option Value}{k k':IntKind}(ht:P.underlying t=some (.slice e)){i:TypeInfo}(hinf:P.info? e=some i)(hsz:i.size=sz)(ha:bndV lo 0 0):
 (Instr.sliceAt t (.slice ad len cap) lo (some (.int k 0)) (some (.int k' 0))).run P w=.ok (.slice ad 0 0) w:=by
 unfold Instr.sliceAt;simp only[Y6,Y5 ht,Result.andThen_ok];unfold Instr.slice
 have hb:(Instr.sliceBounds true len cap lo (some (.int k 0)) (some (.int k' 0))).run P w=.ok (0,0,0) w:=by
  unfold Instr.sliceBounds;simp only[Y6]
  rw[V8 w k' 0 cap _ (by omega) (by omega)]
  simp only[Result.andThen_ok]
  rw[V8 w k 0 _ _ (by omega) (by simp)]
  cases lo with
  |none=>simp
  |some v=>
   obtain⟨k2,i,rfl,h0,h1⟩:=ha
   have:i=0:=by omega
   subst this;rfl
 simp only[Y6,Y5 ht,Result.andThen_ok,hb,Zbs hinf,hsz,Sem.run_pure,Yh,WJ]
theorem Zsa{xs:List (List AV)}{ad:Option Addr}{len cap a b sz:Nat}(h:Rep S w ι (.sl xs) (.slice ad len cap))(hlen:a=0∨∀r,r∈xs→r.length=sz)(hab:a≤b)(hb:b≤xs.length):
 len=xs.length∧len≤cap∧Rep S w ι (.sl ((xs.take b).drop a)) (.slice (if cap=a then ad else ad.map (·.add (a*sz))) (b-a) (cap-a)):=by
 cases h with
 |imm _ _ h=>
  generalize hv:Value.slice ad len cap=v at h
  cases h with
  |snil=>
   injection hv with h1 h2 h3
   subst h1;subst h2;subst h3;simp only[Yx]at hb
   refine⟨rfl,Yg _,.imm _ _ ?_⟩
   have hb0:b=0:=by omega
   have ha0:a=0:=by omega
   subst hb0;subst ha0;simp only[List.take_nil,List.drop_nil,Yh,WJ];exact .snil
  |sl _ a' cap' sz' vals hcap hlim hS hl hcell hrep=>
   injection hv with h1 h2 h3
   subst h1;subst h2;subst h3
   refine⟨rfl,hcap,.imm _ _ ?_⟩
   have hlen':((xs.take b).drop a).length=b-a:=by simp;omega
   have hget:∀(i:Nat) r,((xs.take b).drop a)[i]? =some r→i<b-a∧xs[a+i]? =some r:=by
    intro i r hri
    have hlt:=Zap hri
    rw[hlen']at hlt
    rw[YM,W7]at hri
    rw[if_pos (by omega)]at hri
    exact⟨hlt,hri⟩
   have hgen:∀ad':Addr,((xs.take b).drop a≠[]→ad'=⟨a'.block,a'.off+a*sz',none⟩)→IRep S w (.sl ((xs.take b).drop a)) (.slice (some ad') (b-a) (cap-a)):=by
    intro ad' had
    have:=IRep.sl (S:=S) (w:=w) ((xs.take b).drop a) ad' (cap-a) sz' (fun i=>vals (a+i)) (by omega) (by omega) (fun hne=>by
     grind) (fun i r hri=>hl _ r (hget i r hri).2) (fun i j v hi hv=>by
     have hne:(xs.take b).drop a≠[]:=by intro e;rw[e]at hi;simp at hi
     grind) (fun i j r x v h1 h2 h3=>hrep _ j r x v (hget i r h1).2 h2 h3)
    rw[hlen']at this;exact this
   split
   ·grind
   ·refine hgen (a'.add (a*sz)) (fun hne=>?_)
    have hx:xs≠[]:=by intro e;subst e;simp at hne
    have hsp:=(hS hx).2
    obtain⟨x,hxm⟩:=Wv xs hx
    obtain⟨i,hi⟩:=Wj hxm
    have e1:=(hl i x hi).1
    have e2:a*sz=a*sz':=by
     rcases hlen with rfl|hlen
     ·simp
     ·simp_all
    rw[e2]
    obtain⟨bl,of,sp⟩:=a'
    simp only at hsp;subst hsp;exact Zgn _ _ _
theorem Zqg{e:Bool}{n:Nat}{kt:TypeId}{k q:IntKind}{i:Int}(h:P.underlying kt=some (.int k)):(Instr.checkKey e (n+1) kt (.int q i)).run P w=.ok () w:=by
 rw[V3];simp only[Y6,Y5 h,Result.andThen_ok,Sem.run_pure]
theorem Ztk{e:Bool}{n:Nat}{kt:TypeId}{b:ByteArray}(h:P.underlying kt=some .string):(Instr.checkKey e (n+1) kt (.string b)).run P w=.ok () w:=by
 rw[V3];simp only[Y6,Y5 h,Result.andThen_ok,Sem.run_pure]
theorem ZsG{e:Bool}{n:Nat}{kt:TypeId}{b:Bool}(h:P.underlying kt=some .bool):(Instr.checkKey e (n+1) kt (.bool b)).run P w=.ok () w:=by
 rw[V3];simp only[Y6,Y5 h,Result.andThen_ok,Sem.run_pure]
theorem Zo5(n:Nat)(k:IntKind)(i:Int):Instr.sameBits n (.int k i) (.int k i)=true:=by rw[Instr.sameBits.eq_2];simp
theorem ZrD(n:Nat)(l:List UInt8):Instr.sameBits n (.string ⟨l.toArray⟩) (.string ⟨l.toArray⟩)=true:=by rw[Instr.sameBits.eq_5,ZnY];simp
theorem Zo6(n:Nat)(b:Bool):Instr.sameBits n (.bool b) (.bool b)=true:=by rw[Instr.sameBits.eq_1];simp
theorem Zo4(q r:IntKind)(a b:Int):Instr.sameBits 10000 (.agg #[.int q a,.int r b]) (.agg #[.int q a,.int r b])=true:=by
 rw[show(10000:Nat)=9999+1 from rfl,Instr.sameBits.eq_10]
 simp[Zo5]
theorem Zfc{q r:IntKind}{a b:Int}{u:Value}(hu:Rep S w ι (.agg [.int q a,.int r b]) u):u=.agg #[.int q a,.int r b]:=by
 obtain⟨vs,rfl,hl,hg⟩:=hu.agg_inv
 match vs,hl with
 |⟨[x,y]⟩,_=>
  have h1:=(hg 0 _ x rfl rfl).int_inv
  have h2:=(hg 1 _ y rfl rfl).int_inv
  simp_all
theorem ZkV{kt:TypeId}{k k':AV}{u v:Value}(h:keyEq P kt k k'=some true)(hu:Rep S w ι k u)(hv:IRep S w k' v):Instr.sameBits 10000 v u=true:=by
 unfold keyEq at h;split at h
 ·rename_i q0 q a q' b' ht
  split at h
  ·rename_i e;subst e
   injection h with h
   rw[hu.int_inv];cases hv
   have:a=b':=by simpa using h
   subst this;exact Zo5 _ _ _
  ·cases h
 ·rename_i a b' ht
  injection h with h
  rw[hu.str_inv]
  have hv':=(Rep.imm (ι:=ι) _ _ hv).str_inv
  rw[hv']
  have:a=b':=by simpa using h
  subst this;exact ZrD _ _
 ·rename_i a b' ht
  injection h with h
  rw[hu.bool_inv];cases hv
  have:a=b':=by simpa using h
  subst this;exact Zo6 _ _
 ·rename_i fs q a r b q' a' r' b' ht
  split at h
  ·rename_i e
   obtain⟨e1,e2⟩:=e;subst e1;subst e2
   injection h with h
   have hv':=Zfc (Rep.imm (ι:=ι) _ _ hv)
   rw[Zfc hu,hv'];simp only[Y8,Vo]at h
   obtain⟨rfl,rfl⟩:=h
   exact Zo4 _ _ _ _
  ·cases h
 ·cases h
theorem Zml{kt:TypeId}{k k':AV}{b:Bool}{u v:Value}{d:TypeDesc}(hd:P.underlying kt=some d)(hns:∀fs,d≠.struct fs)(h:keyEq P kt k k'=some b)(hu:Rep S w ι k u)(hv:IRep S w k' v):
 Instr.sameNow d u v=some b:=by
 unfold keyEq at h;split at h
 ·rename_i q0 q a q' b' ht
  rw[hd]at ht;injection ht with ht;subst ht
  split at h
  ·rename_i e;subst e
   injection h with h;subst h
   rw[hu.int_inv];cases hv;simp[Instr.sameNow]
  ·cases h
 ·rename_i a b' ht
  rw[hd]at ht;injection ht with ht;subst ht
  injection h with h;subst h
  rw[hu.str_inv]
  have hv':=(Rep.imm (ι:=ι) _ _ hv).str_inv
  rw[hv'];simp[Instr.sameNow,ZnY]
 ·rename_i a b' ht
  rw[hd]at ht;injection ht with ht;subst ht
  injection h with h;subst h
  rw[hu.bool_inv];cases hv;rfl
 all_goals grind
theorem Zon{p:Bool}{kt:TypeId}{k:AV}{u:Value}{d:TypeDesc}(hd:P.underlying kt=some d)(hns:∀fs,d≠.struct fs)(hu:Rep S w ι k u):
 ∀(es:List (AV×AV)) (xs:List MapEntry) (i:Nat) (r:Option Nat),Zdm p S w ι es xs→ZbR P kt k es i r→
  (∃e,Instr.findNow d u xs i=some e∧e.map (·.1)=r∧∀j y,e=some (j,y)→i≤j∧∃q,xs[j-i]? =some q∧q.val=y):=by
 intro es
 induction es with
 |nil=>
  intro xs i r hm h
  have:xs=[]:=Yt.1 hm.1.symm
  subst this;simp only[ZbR]at h;subst h
  exact⟨none,rfl,rfl,by simp⟩
 |cons e es ih=>
  intro xs i r hm h
  cases xs with
  |nil=>have:=hm.1;grind
  |cons x xs=>
   have hm':Zdm p S w ι es xs:=⟨by simpa using hm.1,fun j a b ha hb=>hm.2 (j+1) a b (by simp_all) (by simp_all)⟩
   have hx:=hm.2 0 e x rfl rfl
   simp only[ZbR]at h
   rcases h with ⟨h1,rfl⟩|⟨h1,h2⟩
   ·have hs:=Zml hd hns h1 hu hx.1
    refine⟨some (i,x.val),by simp[Instr.findNow,hs],rfl,?_⟩
    simp
   ·have hs:=Zml hd hns h1 hu hx.1
    obtain⟨e',h3,h4,h5⟩:=ih xs (i+1) r hm' h2
    refine⟨e',by simp[Instr.findNow,hs,h3],h4,?_⟩
    grind
theorem Zl4{kt:TypeId}(h:pairT P kt=true):∃f g:Field,P.underlying kt=some (.struct #[f,g])∧f.name≠ "_" ∧g.name≠ "_" ∧f.offset=0∧g.offset=1∧
 (∃k,P.underlying f.type=some (.int k))∧(∃k,P.underlying g.type=some (.int k))∧(kindT P f.type).map (·.1)=some false∧(kindT P g.type).map (·.1)=some false∧Zdi P 20 kt=true∧P.cellsOf kt=2:=by
 unfold pairT at h;split at h
 ·rename_i fs ht
  split at h
  ·rename_i f g hfs
   simp only[Y8,Ym,bne_iff_ne,ne_eq]at h
   obtain⟨⟨⟨⟨⟨⟨⟨⟨h1,h2⟩,h3⟩,h4⟩,h5⟩,h6⟩,h7⟩,h8⟩,h9⟩:=h
   have e:fs=#[f,g]:=by apply Array.ext';simpa using hfs
   grind
  ·cases h
 ·cases h
theorem Zny{t:TypeId}{xs:Array Value}{c:Nat}{v:Value}(h:(kindT P t).map (·.1)=some false)(hv:xs[c]? =some v):(part t xs c).run P w=.ok v w:=by
 rw[Ye]at h
 obtain⟨⟨b,n⟩,hk,hb⟩:=h
 simp only at hb;subst hb
 obtain⟨ha,hs⟩:=Zd2 hk w
 unfold part;simp_all
theorem ZsF{e:Bool}{kt:TypeId}{q r:IntKind}{a b:Int}(h:pairT P kt=true):(Instr.checkKey e 10000 kt (.agg #[.int q a,.int r b])).run P w=.ok () w:=by
 obtain⟨f,g,ht,h1,h2,h3,h4,⟨k1,hf⟩,⟨k2,hg⟩,h6,h7,_,_⟩:=Zl4 h
 have p1:(part f.type #[.int q a,.int r b] f.offset).run P w=.ok (.int q a) w:=Zny h6 (by grind)
 have p2:(part g.type #[.int q a,.int r b] g.offset).run P w=.ok (.int r b) w:=Zny h7 (by grind)
 have c1:(Instr.checkKey e 9999 f.type (.int q a)).run P w=.ok () w:=Zqg hf
 have c2:(Instr.checkKey e 9999 g.type (.int r b)).run P w=.ok () w:=Zqg hg
 rw[show(10000:Nat)=9999+1 from rfl,V3]
 simp[Y5 ht,h1,h2,p1,p2,c1,c2]
theorem ZsA{p:Bool}{kt:TypeId}{k:AV}{u:Value}(hk:keyOk P kt k=true){fs:Array Field}(hd:P.underlying kt=some (.struct fs))(hu:Rep S w ι k u):
 ∀(es:List (AV×AV)) (xs:List MapEntry) (i:Nat) (r:Option Nat),Zdm p S w ι es xs→ZbR P kt k es i r→
  (∃e,(Instr.findAsking kt u xs i).run P w=.ok e w∧e.map (·.1)=r∧∀j y,e=some (j,y)→i≤j∧∃q,xs[j-i]? =some q∧q.val=y):=by
 unfold keyOk at hk;rw[hd]at hk;split at hk
 ·simp_all
 ·simp_all
 ·simp_all
 ·rename_i _ q a r0 b ht
  obtain⟨f,g,hfg,_,_,ho1,ho2,⟨ki,hfi⟩,⟨kj,hgi⟩,_,_,hpl,hcl⟩:=Zl4 hk
  have eqr:∀(k':AV) (v:Value) (c:Bool),keyEq P kt (.agg [.int q a,.int r0 b]) k'=some c→IRep S w k' v→(Op.equal kt u v).run P w=.ok c w:=by
   intro k' v c hc hv;unfold keyEq at hc;rw[hd]at hc;split at hc
   ·simp_all
   ·simp_all
   ·simp_all
   ·rename_i _ q1 a1 r1 b1 q' a' r' b' _ e1
    injection e1 with e1
    simp only[List.cons.injEq,AV.int.injEq,and_true]at e1
    obtain⟨⟨rfl,rfl⟩,rfl,rfl⟩:=e1
    split at hc
    ·rename_i e
     obtain⟨e2,e3⟩:=e;subst e2;subst e3
     injection hc with hc;subst hc
     rw[Zfc hu,Zfc (Rep.imm (ι:=ι) _ _ hv)]
     have h1:=hu;rw[Zfc hu]at h1
     have h2:=Rep.imm (ι:=ι) _ _ hv;rw[Zfc h2]at h2
     obtain⟨_,e4,hL1⟩:=h1.agg_inv
     injection e4 with e4;subst e4
     obtain⟨_,e5,hL2⟩:=h2.agg_inv
     injection e5 with e5;subst e5
     refine Zqr hL1 hL2 hpl hcl.symm hcl.symm ?_ ⟨_,hd⟩
     simp only[Zdj,hfg,eqFsG,hfi,hgi,ho1,ho2];simp
    grind
   ·cases hc
  intro es
  induction es with
  |nil=>
   intro xs i r hm h
   have:xs=[]:=Yt.1 hm.1.symm
   subst this;simp only[ZbR]at h;subst h
   exact⟨none,rfl,rfl,by simp⟩
  |cons e es ih=>
   intro xs i r hm h
   cases xs with
   |nil=>have:=hm.1;grind
   |cons x xs=>
    have hm':Zdm p S w ι es xs:=⟨by simpa using hm.1,fun j a b ha hb=>hm.2 (j+1) a b (by simp_all) (by simp_all)⟩
    have hx:=hm.2 0 e x rfl rfl
    simp only[ZbR]at h
    rcases h with ⟨h1,rfl⟩|⟨h1,h2⟩
    ·have hs:=eqr _ _ _ h1 hx.1
     refine⟨some (i,x.val),by simp[Instr.findAsking,hs],rfl,?_⟩
     simp
    ·have hs:=eqr _ _ _ h1 hx.1
     obtain⟨e',h3,h4,h5⟩:=ih xs (i+1) r hm' h2
     refine⟨e',by simp[Instr.findAsking,hs,h3],h4,?_⟩
     grind
 grind
theorem Zc5{p:Bool}{kt:TypeId}{k:AV}{u:Value}{d:TypeDesc}(hd:P.underlying kt=some d)(hk:keyOk P kt k=true)(hu:Rep S w ι k u)
 {es:List (AV×AV)} {xs:List MapEntry} {r:Option Nat} (hm:Zdm p S w ι es xs) (h:ZbR P kt k es 0 r):
 ∃e,(Instr.findKey kt u xs).run P w=.ok e w∧e.map (·.1)=r∧∀j y,e=some (j,y)→∃q,xs[j]? =some q∧q.val=y:=by
 by_cases hs:∃fs,d=.struct fs
 ·obtain⟨fs,rfl⟩:=hs
  obtain⟨e,h1,h2,h3⟩:=ZsA hk hd hu es xs 0 r hm h
  refine⟨e,?_,h2,fun j y he=>by simp_all⟩
  rw[run_findKey_eq w (by rw[hd])]
  exact h1
 ·obtain⟨e,h1,h2,h3⟩:=Zon hd (fun fs e=>hs ⟨fs,e⟩) hu es xs 0 r hm h
  refine⟨e,?_,h2,fun j y he=>by simp_all⟩
  simp only[Instr.findKey,Y6,Y5 hd,Result.andThen_ok,h1,Sem.run_pure]
end
def RepP(p:Bool)(S:Nat→Prop)(w:World)(ι:Imap)(cs:List AV)(vs:List Value):Prop:=if p=true then IRepL S w cs vs else RepL S w ι cs vs
section
variable {p:Bool}{S:Nat→Prop}{w:World}{ι:Imap}{P:Program}
theorem IRepL.append{as bs:List AV}{us vs:List Value}(ha:IRepL S w as us)(hb:IRepL S w bs vs):IRepL S w (as++bs) (us++vs):=by
 refine⟨by simp[ha.1,hb.1],fun j x v hx hv=>?_⟩
 by_cases hj:j<as.length
 ·rw[Yn hj]at hx
  rw[Yn (by have:=ha.1;omega)]at hv
  exact ha.2 j x v hx hv
 ·rw[Yc (by omega)]at hx
  rw[Yc (by have:=ha.1;omega)]at hv
  refine hb.2 (j-as.length) x v hx ?_
  rw[ha.1];exact hv
theorem IRepL.take{as:List AV}{us:List Value}(n:Nat)(h:IRepL S w as us):IRepL S w (as.take n) (us.take n):=by
 refine⟨by simp[h.1],fun j x v hx hv=>?_⟩
 rw[W7]at hx hv
 split at hx
 ·rename_i hlt
  simp only[hlt,Yh]at hv;exact h.2 j x v hx hv
 grind
theorem IRepL.drop{as:List AV}{us:List Value}(n:Nat)(h:IRepL S w as us):IRepL S w (as.drop n) (us.drop n):=by
 refine⟨by simp[h.1],fun j x v hx hv=>?_⟩
 rw[YM]at hx hv
 exact h.2 _ x v hx hv
theorem RepP.len{cs:List AV}{vs:List Value}(h:RepP p S w ι cs vs):cs.length=vs.length:=by
 cases p
 ·simp only[RepP]at h;exact(show RepL S w ι cs vs from by grind).1
 ·simp only[RepP]at h;exact(show IRepL S w cs vs from by grind).1
theorem RepP.rep{cs:List AV}{vs:List Value}(h:RepP p S w ι cs vs):RepL S w ι cs vs:=by
 cases p
 ·simpa[RepP]using h
 ·exact(show IRepL S w cs vs from by simpa[RepP]using h).rep
theorem RepP.weak{q:Bool}{cs:List AV}{vs:List Value}(h:RepP p S w ι cs vs)(hq:q=true→p=true):RepP q S w ι cs vs:=by
 cases q
 ·simpa[RepP]using h.rep
 simp_all
theorem RepP.nil:RepP p S w ι [] []:=by cases p<;>simp[RepP,RepL,IRepL]
theorem RepP.append{as bs:List AV}{us vs:List Value}(ha:RepP p S w ι as us)(hb:RepP p S w ι bs vs):RepP p S w ι (as++bs) (us++vs):=by
 cases p
 ·simp only[RepP,Yr,Y9]at*;exact RepL.append ha hb
 ·simp only[RepP,Yh]at*;exact IRepL.append ha hb
theorem RepP.take{as:List AV}{us:List Value}(n:Nat)(h:RepP p S w ι as us):RepP p S w ι (as.take n) (us.take n):=by
 cases p
 ·simp only[RepP,Yr,Y9]at*;exact RepL.take n h
 ·simp only[RepP,Yh]at*;exact IRepL.take n h
theorem RepP.drop{as:List AV}{us:List Value}(n:Nat)(h:RepP p S w ι as us):RepP p S w ι (as.drop n) (us.drop n):=by
 cases p
 ·simp only[RepP,Yr,Y9]at*;exact RepL.drop n h
 ·simp only[RepP,Yh]at*;exact IRepL.drop n h
theorem RepP.mono{S':Nat→Prop}{w':World}{ι':Imap}(hs:∀b,S b→S' b)(hw:ZbH S w w')(hι:ι.le ι'){cs:List AV}{vs:List Value}(h:RepP p S w ι cs vs):RepP p S' w' ι' cs vs:=by
 cases p
 ·simp only[RepP,Yr,Y9]at*;exact RepL.mono hs hw hι h
 ·simp only[RepP,Yh]at*;exact IRepL.mono hs hw h
structure Flat(p:Bool)(S:Nat→Prop)(w:World)(ι:Imap)(esz:Nat)(rs:List (List AV))(us:List Value):Prop where
 rl:∀r,r∈rs→r.length=esz
 len:us.length=rs.length*esz
 one:∀v,v∈us→v.oneCell'=true
 rep:RepP p S w ι rs.flatten us
theorem Zm2{esz:Nat}{cell:Nat→Option Value}:∀(rs:List (List AV)) (vals:Nat→List Value) (off:Nat),(∀i,i<rs.length→(vals i).length=esz)→
 (∀(i j:Nat) v,i<rs.length→(vals i)[j]? =some v→cell (off+(i*esz+j))=some v∧v.oneCell'=true)→Zcy p S w ι rs vals→
 ∃us,Flat p S w ι esz rs us∧∀(j:Nat) v,us[j]? =some v→cell (off+j)=some v:=by
 intro rs
 induction rs with
 |nil=>intro vals off _ _ _;exact⟨[],⟨by simp,by simp,by simp,RepP.nil⟩,by simp⟩
 |cons r rs ih=>
  intro vals off hl hc hr
  obtain⟨us,hF,hcell⟩:=ih (fun i=>vals (i+1)) (off+esz) (fun i hi=>hl (i+1) (by grind)) (fun i j v hi hv=>by
   grind) (fun i x hx=>hr (i+1) x (by simp_all))
  have h0:=hl 0 (by simp)
  have hr0:RepP p S w ι r (vals 0):=hr 0 r rfl
  refine⟨vals 0++us,⟨?_,?_,?_,?_⟩,?_⟩
  ·intro x hx
   rcases Yj.1 hx with rfl|hx
   ·rw[hr0.len];exact h0
   ·exact hF.rl x hx
  ·rw[Yd,h0,hF.len,Yf,YT];omega
  ·intro v hv
   rcases Yy.1 hv with hv|hv
   ·obtain⟨j,hj⟩:=Wj hv
    grind
   ·exact hF.one v hv
  ·rw[List.flatten_cons];exact hr0.append hF.rep
  grind
theorem Zm1{esz:Nat}:∀(rs:List (List AV)) (i:Nat) (r:List AV),(∀r,r∈rs→r.length=esz)→rs[i]? =some r→(rs.flatten.drop (i*esz)).take esz=r:=by
 intro rs
 induction rs with
 |nil=>simp
 |cons x rs ih=>
  intro i r hl h
  have hx:=hl x (by simp)
  cases i with
  |zero=>
   simp_all
  |succ i=>
   have:=ih i r (fun y hy=>hl y (by simp[hy])) (by grind)
   rw[List.flatten_cons,YT,Nat.one_mul,Nat.add_comm,←hx,List.drop_append,hx]
   rw[Wr (by omega),YO,Vb]
   exact this
theorem Flat.rows{esz:Nat}{rs:List (List AV)}{us:List Value}(h:Flat p S w ι esz rs us):Zcy p S w ι rs (fun i=>(us.drop (i*esz)).take esz):=by
 intro i r hr
 have:=(h.rep.drop (i*esz)).take esz
 rw[Zm1 rs i r h.rl hr]at this;exact this
theorem Flat.at{rs:List (List AV)}{us:List Value}{l:Loc}(h:Flat p S w ι l.esz rs us)(hcell:∀(j:Nat) v,us[j]? =some v→Zbo w l.blk (l.base+j)=some v)
 (hfit:l.base+rs.length*l.esz≤l.size):ZgS w l rs.length (fun i=>(us.drop (i*l.esz)).take l.esz):=by
 refine⟨hfit,fun i hi=>?_,fun i j v hi hv=>?_⟩
 ·have:(i+1)*l.esz≤rs.length*l.esz:=Yo _ hi
  rw[YT]at this;simp[h.len];omega
 ·simp only[W7,YM]at hv
  split at hv
  ·exact⟨hcell _ v hv,h.one v (YA hv)⟩
  grind
theorem Flat.append{esz:Nat}{rs qs:List (List AV)}{us vs:List Value}{q:Bool}(h:Flat p S w ι esz rs us)(h':Flat q S w ι esz qs vs):Flat (p&&q) S w ι esz (rs++qs) (us++vs):=by
 refine⟨fun r hr=>?_,by rw[Yd,Yd,h.len,h'.len,YT],fun v hv=>?_,?_⟩
 ·rcases Yy.1 hr with hr|hr
  ·exact h.rl r hr
  ·exact h'.rl r hr
 ·rcases Yy.1 hv with hv|hv
  ·exact h.one v hv
  ·exact h'.one v hv
 ·rw[List.flatten_append]
  exact(h.rep.weak (fun e=>by simp_all)).append (h'.rep.weak (fun e=>by simp_all))
theorem Flat.mono{S':Nat→Prop}{w':World}{ι':Imap}(hs:∀b,S b→S' b)(hw:ZbH S w w')(hι:ι.le ι'){esz:Nat}{rs:List (List AV)}{us:List Value}(h:Flat p S w ι esz rs us):Flat p S' w' ι' esz rs us:=
 ⟨h.rl,h.len,h.one,h.rep.mono hs hw hι⟩
theorem Flat.nil{esz:Nat}:Flat p S w ι esz [] []:=⟨by simp,by simp,by simp,RepP.nil⟩
theorem ZhL{esz n len cap:Nat}{blk off:Nat}{us:List Value}(hl:us.length=n*esz)(h:∀(j:Nat) v,us[j]? =some v→Zbo w blk (off+j)=some v)
 {w':World} (hw:w'.heap=w.heap):(Builtin.firstCells esz n (.slice (some ⟨blk,off,none⟩) len cap)).run P w'=.ok us.toArray w':=by
 refine run_firstCells_some w' esz n _ len cap us hl (fun j v hv=>?_)
 have:=h j v hv
 rw[Zgn];simp only[Zbo,World.cell?,hw]at this⊢;exact this
theorem ZcR{esz n:Nat}{v:Value}(hn:n*esz=0)(hs:(∃a len cap,v=.slice a len cap)∨(n=0∧∃s,v=.string s))(w':World):
 (Builtin.firstCells esz n v).run P w'=.ok #[] w':=by
 rcases hs with ⟨a,len,cap,rfl⟩|⟨rfl,s,rfl⟩
 ·cases a with
  |none=>rfl
  |some a=>simp[Builtin.firstCells,hn,loadCells,loadCellsFrom]
 ·simp[Builtin.firstCells]
structure Src2(P:Program)(w:World)(esz:Nat)(v:Value)(len n:Nat)(us:List Value):Prop where
 len:∀w':World,(Builtin.lenOf v).run P w'=.ok len w'
 cells:∀w':World,w'.heap=w.heap→(Builtin.firstCells esz n v).run P w'=.ok us.toArray w'
theorem Zo7{rs:List (List AV)}{vals:Nat→List Value}(h:Zcy p S w ι rs vals)(off n:Nat):Zcy p S w ι ((rs.drop off).take n) (fun i=>vals (off+i)):=by
 intro i r hr
 rw[W7]at hr
 split at hr
 ·rw[YM]at hr;exact h _ _ hr
 grind
theorem Zj1{o:Nat}{y:AO}{rs:List (List AV)}{p:Bool}(h:ObjOk S w ι o y)(hy:y=.rows p rs∨(p=true∧y=.froz rs)):
 (ι o=some none∧rs=[])∨∃l vals,ι o=some (some l)∧rs.length=l.cnt∧ZgS w l rs.length vals∧Zcy p S w ι rs vals:=by
 rcases hy with rfl|⟨rfl,rfl⟩
 ·rcases h with h|⟨l,vals,h1,h2,h3,h4,h5⟩
  all_goals grind
 ·rcases h with h|⟨l,vals,h1,h2,h3,h4,h5⟩
  all_goals grind
theorem ZiQ{rs:List (List AV)}{vals:Nat→List Value}{l:Loc}(hat:ZgS w l rs.length vals)(hr:Zcy p S w ι rs vals)(off n:Nat)(h:off+n≤rs.length):
 ∃us,Flat p S w ι l.esz ((rs.drop off).take n) us∧∀(j:Nat) v,us[j]? =some v→Zbo w l.blk (l.base+off*l.esz+j)=some v:=by
 have hlen:((rs.drop off).take n).length=n:=by simp;omega
 refine Zm2 (cell:=Zbo w l.blk) _ (fun i=>vals (off+i)) (l.base+off*l.esz) (fun i hi=>hat.2.1 _ (by omega)) (fun i j v hi hv=>?_) (Zo7 hr off n)
 have:=hat.2.2 (off+i) j v (by omega) hv
 grind
theorem ZlX{ol:Nat→Option AO}(hob:∀o x,ol o=some x→ObjOk S w ι o x){x:AV}{v:Value}(hx:Rep S w ι x v){rs:List (List AV)}{ro:List Nat}{esz:Nat}
 (hs:listA ol x=some (p,rs,ro)) (hl:∀r,r∈rs→r.length=esz) (n:Nat) (hn:n≤rs.length):
 ∃us,Flat p S w ι esz (rs.take n) us∧Src2 P w esz v rs.length n us:=by
 have obj:∀(o off len:Nat) (y:AO) (rs0:List (List AV)),ol o=some y→(y=.rows p rs0∨(p=true∧y=.froz rs0))→rs=(rs0.drop off).take len→
  ((∃l a cap,ι o=some (some l)∧v=.slice (some a) len cap∧len≤cap∧off+len≤l.cnt∧(cap≠0→a=⟨l.blk,l.base+off*l.esz,none⟩))∨(ι o=some none∧len=0∧∃a,v=.slice a 0 0))→
  ∃us,Flat p S w ι esz (rs.take n) us∧Src2 P w esz v rs.length n us:=by
  intro o off len y rs0 hy hyr hrs hv
  rcases Zj1 (hob o y hy) hyr with ⟨q,h0⟩|⟨l,vals,q,hcnt,hat,hrep⟩
  ·rcases hv with ⟨l,a,cap,q',_⟩|⟨q',hlen0,a,rfl⟩
   ·simp_all
   ·subst h0
    subst hlen0;simp only[List.drop_nil,List.take_nil]at hrs;subst hrs;simp only[Yx]at hn
    have:n=0:=by omega
    subst this
    exact⟨[],by simpa using Flat.nil,⟨fun _=>rfl,fun w' _=>ZcR (by simp) (.inl ⟨_,_,_,rfl⟩) w'⟩⟩
  ·rcases hv with ⟨l',a,cap,q',rfl,h1,h2,ha⟩|⟨q',_⟩
   ·rw[q]at q';injection q' with q';injection q' with q';subst q'
    have hlen:rs.length=len:=by rw[hrs];simp;omega
    by_cases hn0:n=0
    ·subst hn0
     refine⟨[],by simpa using Flat.nil,⟨fun _=>by rw[hlen];rfl,fun w' _=>ZcR (by simp) (.inl ⟨_,_,_,rfl⟩) w'⟩⟩
    ·have hoff:off+n≤rs0.length:=by omega
     obtain⟨us,hF,hc⟩:=ZiQ hat hrep off n hoff
     have e:rs.take n=(rs0.drop off).take n:=by rw[hrs,List.take_take,Wh (by omega)]
     have hes:esz=l.esz:=by
      have hne:rs.take n≠[]:=by intro e;have:=YI List.length e;rw[Yw,Yx]at this;omega
      obtain⟨r,hr⟩:=Wv _ hne
      have h3:=hl r (YZ hr)
      rw[e]at hr
      have h4:=hF.rl r hr
      omega
     subst hes;rw[e]
     have hlt:((rs0.drop off).take n).length=n:=by simp;omega
     refine⟨us,hF,⟨fun _=>by rw[hlen];rfl,fun w' hw=>?_⟩⟩
     rw[ha (by omega)]
     exact ZhL (by rw[hF.len,hlt]) hc hw
   simp_all
 cases x with
 |sl xs=>
  simp only[listA,Y1,Ws]at hs
  obtain⟨rfl,rfl,rfl⟩:=hs
  cases hx with
  |imm _ _ h=>
   generalize hvv:v=v' at h
   cases h with
   |snil=>
    subst hvv;simp only[Yx]at hn
    have:n=0:=by omega
    subst this
    exact⟨[],by simpa using Flat.nil,⟨fun _=>rfl,fun w' _=>ZcR (by simp) (.inl ⟨_,_,_,rfl⟩) w'⟩⟩
   |sl _ a cap sz vals hcap hlim hS hlen hcell hrep=>
    subst hvv
    by_cases hn0:n=0
    ·subst hn0
     exact⟨[],by simpa using Flat.nil,⟨fun _=>rfl,fun w' _=>ZcR (by simp) (.inl ⟨_,_,_,rfl⟩) w'⟩⟩
    ·have hne:xs≠[]:=by intro e;subst e;simp at hn;omega
     obtain⟨r,hr⟩:=Wv _ hne
     obtain⟨i,hi⟩:=Wj hr
     have hes:esz=sz:=by rw[←hl r hr];exact(hlen i r hi).1
     subst hes
     have hrr:Zcy true S w ι xs vals:=by
      intro i r hri;simp only[Yh]
      refine⟨by grind,fun j x v h1 h2=>hrep i j r x v hri h1 h2⟩
     have hlt:(xs.take n).length=n:=by simp;omega
     obtain⟨us,hF,hc⟩:=Zm2 (cell:=Zbo w a.block) (xs.take n) vals a.off (fun i hi=>by
      grind) (fun i j v hi hv=>hcell i j v (by omega) hv) (fun i r hri=>by
      rw[W7]at hri
      split at hri
      ·exact hrr i r hri
      grind)
     refine⟨us,hF,⟨fun _=>rfl,fun w' hw=>?_⟩⟩
     obtain⟨bl,of,sp⟩:=a
     have hsp:=(hS hne).2
     simp only at hsp;subst hsp
     exact ZhL (by rw[hF.len,hlt]) hc hw
 |esl=>
  simp only[listA,Y1,Ws]at hs
  obtain⟨rfl,rfl,rfl⟩:=hs
  simp only[Yx]at hn
  have:n=0:=by omega
  subst this
  cases hx with
  |imm _ _ h=>
   cases h with
   |esl a=>exact⟨[],by simpa using Flat.nil,⟨fun _=>rfl,fun w' _=>ZcR (by simp) (.inl ⟨_,_,_,rfl⟩) w'⟩⟩
 |str l=>
  simp only[listA,Y1,Ws]at hs
  obtain⟨rfl,rfl,rfl⟩:=hs
  have hv:=hx.str_inv
  subst hv;simp only[Ya]at hn
  have hlenOf:∀w':World,(Builtin.lenOf (.string ⟨l.toArray⟩)).run P w'=.ok (l.map fun b=>[AV.int .u8 b.toNat]).length w':=by
   intro w'
   have:(⟨l.toArray⟩:ByteArray).size=l.length:=by show l.toArray.size=_;simp
   simp[Builtin.lenOf,this]
  by_cases hn0:n=0
  ·subst hn0
   exact⟨[],by simpa using Flat.nil,⟨hlenOf,fun w' _=>ZcR (by simp) (.inr ⟨rfl,_,rfl⟩) w'⟩⟩
  ·have hes:esz=1:=by
    cases l with
    |nil=>simp_all
    |cons b l=>simp_all
   subst hes
   refine⟨(l.take n).map fun b=>Value.int .u8 b.toNat,⟨fun r hr=>hl r (YZ hr),by simp,fun v hv=>?_,?_⟩,⟨hlenOf,fun w' _=>?_⟩⟩
   ·obtain⟨b,_,rfl⟩:=YK.1 hv;rfl
   ·have hfl:((l.map fun b=>[AV.int .u8 b.toNat]).take n).flatten=(l.take n).map fun b=>AV.int .u8 b.toNat:=by
     rw[←List.map_take];generalize l.take n=m
     induction m with
     |nil=>rfl
     |cons b m ih=>simp[ih]
    rw[hfl];simp only[RepP,Yh]
    refine⟨by simp,fun j x v h1 h2=>?_⟩
    rw[Yl,Ye]at h1 h2
    obtain⟨b,h1,rfl⟩:=h1
    obtain⟨b',h2,rfl⟩:=h2
    rw[h1]at h2;injection h2 with h2;subst h2
    exact .int _ _
   ·simp only[Builtin.firstCells,Sem.run_pure]
    simp
 |osw o z=>
  simp only[listA]at hs
  have key:∀y rs0,ol o=some y→(y=.rows p rs0∨(p=true∧y=.froz rs0))→rs=rs0→∃us,Flat p S w ι esz (rs.take n) us∧Src2 P w esz v rs.length n us:=by
   intro y rs0 hy hyr hrs
   refine obj o 0 rs0.length y rs0 hy hyr (by simp_all) ?_
   rcases ZcP hx with ⟨l,a,cap,q,rfl,h1,h2,h3,_,ha⟩|⟨q,a,rfl⟩
   ·have hc:rs0.length=l.cnt:=by
     rcases Zj1 (hob o y hy) hyr with ⟨q',_⟩|⟨l',vals,q',hcnt,_⟩
     ·simp_all
     ·simp_all
    grind
   ·have hc:rs0=[]:=by
     rcases Zj1 (hob o y hy) hyr with ⟨_,h⟩|⟨l',vals,q',hcnt,_⟩
     ·exact h
     ·simp_all
    simp_all
  grind
 |osl o off len room=>
  simp only[listA]at hs
  have key:∀y rs0,ol o=some y→(y=.rows p rs0∨(p=true∧y=.froz rs0))→rs=(rs0.drop off).take len→∃us,Flat p S w ι esz (rs.take n) us∧Src2 P w esz v rs.length n us:=by
   intro y rs0 hy hyr hrs
   refine obj o off len y rs0 hy hyr hrs ?_
   rcases Zil hx with ⟨l,a,cap,q,rfl,h1,h2,h3,h4,h5,ha⟩|⟨q,rfl,rfl,rfl,a,rfl⟩
   ·grind
   ·simp_all
  grind
 |_=>simp[listA]at hs
end
end Go.Ab
