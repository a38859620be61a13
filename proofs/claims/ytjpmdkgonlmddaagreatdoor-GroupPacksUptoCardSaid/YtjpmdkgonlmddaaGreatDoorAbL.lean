import Derived.Test.YtjpmdkgonlmddaaGreatDoorAbJ
import Derived.OpenShut
import Derived.LaidMore
import Derived.LaidSub
import Derived.Stop.LaidErr
set_option linter.unusedVariables false
namespace Go.Ab
open Go Go.RowKit Go.Proofs
variable {P:Program}{w:World}
theorem ZqW{g:Nat}(i:List (IntKind×Int))(A:i≠[])(h:∀j z,i[j]? =some z→w.cell? ⟨g,j,none⟩=some (.int z.1 z.2)):
 cE (λ b=>b<w.heap.size) w (.rp (i.map λ z=>.int z.1 z.2) 0) (.pointer (some ⟨g,0,none⟩)):=by
 have y:g<w.heap.size:=by
  cases i with
  |nil=>simp_all
  |cons z r=>
   have:=h 0 z rfl;unfold World.cell? at this;grind
 have:=cE.rp (S:=λ b=>b<w.heap.size) (w:=w) (i.map λ z=>AV.int z.1 z.2) 0 g 0 (i.map λ z=>Value.int z.1 z.2) y (by simp) (λ j v o=>?_) (λ j x v u o=>?_)
 ·exact this
 ·rw[YD,Yq]at o;obtain⟨z,q,rfl⟩:=o;refine⟨?_,rfl⟩;grind
 ·rw[YD,Yq]at o u;obtain⟨z,q,rfl⟩:=o;obtain⟨z',p,rfl⟩:=u;rw[q]at p;cases p;exact .int _ _
theorem E5{l:List (String×DataW Unit)}{name:String}{d:DataW Unit}(h:laidMetH P l w)(i:(l.filter λ x=>x.1==name)=[(name,d)])(hh:d.handleName? =none):laidMet P [(name,d)] w:=by
 have:=h.filter λ x=>x.1==name;rw[i]at this
 obtain⟨h1,_⟩:=laidMetH_iff.1 this;simp_all
open Go Go.RowKit
section
variable {P:Program}{W:World}{g:Nat}
theorem OT{n:Nat}{t:TypeId}{zero:Array Value}(h:W.ShapedOpen P)(i:g<P.globals.size)
 (h0:((begin P (λ _ _=>0) default).world.heap[g]?).bind Obj.row? =some (zero,t)) (hz:zero.size=n):∃cs t fr,W.heap[g]? =some (.cells cs t fr)∧cs.size=n:=by
 obtain⟨cs,hh,hs,_⟩:=h.1 g zero t i h0;simp_all
theorem Zq0(i:List (IntKind×Int))(o:i≠[])(p:∀j z,i[j]? =some z→W.cell? ⟨g,j,none⟩=some (.int z.1 z.2))(hs:∃cs t fr,W.heap[g]? =some (.cells cs t fr)∧cs.size=i.length):
 ox (λ b=>b<W.heap.size) W g (i.map λ z=>.int z.1 z.2):=by
 refine⟨ZqW i o p,?_⟩;simp_all
theorem NH{name:String}{k:IntKind}{i:aa}(p:Lib.TabIs P W name k i)(q:P.globalNamed name=some g)(u:i≠[])(hs:∃cs t fr,W.heap[g]? =some (.cells cs t fr)∧cs.size=i.length):
 ox (λ b=>b<W.heap.size) W g (i.map λ z=>.int k z):=by
 have e:(i.map λ z=>AV.int k z)=(i.map λ z=>(k,z)).map λ z=>AV.int z.1 z.2:=by rw[Wa];rfl
 rw[e];refine Zq0 _ (by simp_all) (λ j z o=>?_) (by simp_all)
 rw[YD,Yq]at o;obtain⟨n,hn,rfl⟩:=o;have hj:=(Ys.1 hn).1;rw[p.cell q j hj];simp_all
theorem NG{name:String}{v:Value}(h:W.var? P name=some #[v])(u:P.globalNamed name=some g)(ho:v.oneCell'=true):ox (λ b=>b<W.heap.size) W g [.eT v]:=by
 unfold World.var? at h;rw[u,Y1]at h;cases hh:W.heap[g]? with
 |none=>simp_all
 |some o=>
  rw[hh]at h;cases o with
  |cells cs t fr=>
   simp only[Y5]at h;subst h;refine⟨?_,#[v],t,fr,hh,rfl⟩;have q:g<W.heap.size:=(WO.1 hh).1;have:=cE.rp (S:=λ b=>b<W.heap.size) (w:=W) [.eT v] 0 g 0 [v] q rfl (λ j x i=>?_) (λ j x y i p=>?_)
   ·exact this
   ·match j,i with
    |0,i=>
     simp only[Yv,Y5]at i;subst i;refine⟨?_,ho⟩;show W.cell? ⟨g,0+0,none⟩=some v;unfold World.cell?;grind
    |j+1,i=>simp at i
   ·match j,i,p with
    |0,i,p=>
     simp only[Yv,Y5]at i p;subst i p;exact .eT v ho
    |j+1,i,_=>simp at i
  |_=>simp at h
theorem NB{n:String}{o:aj}{z tp te ts:TypeId}{ms:Array (String×TypeId)}{f:Field}
 (h:laidMet P [(n,.iface "*errors.errorString" (.ptr (.agg [.lit (.string o)])))] W)
 (M:P.globalNamed n=some g) (E:(P.globals[g]?).map (·.type)=some z) (C:P.underlying z=some (.interface ms))
 (p:((List.range P.types.size).all λ u=>P.typeName? 3 u != some "*errors.errorString" ||u==tp)=true)
 (i:((List.range P.types.size).all λ e=>P.typeName? 2 e != some "errors.errorString" ||(match (P.info? e).map (·.desc)with|some (TypeDesc.named _ _)=>true|_=>false))=true)
 (O:P.underlying tp=some (.pointer te)) (J:P.underlying te=some (.struct #[f])) (q:f.type=ts) (x:f.offset=0) (B:P.underlying ts=some .string) (H:P.cellsOf te=1) (y:P.cellsOf ts=1):
 ∃v,W.var? P n=some #[v]∧(v=.nilIface∨∃te Q,v=.iface te Q)∧v.oneCell'=true:=by
 have A: "*" ++ "errors.errorString" = "*errors.errorString" :=by decide
 have j:∀u,P.typeName? 3 u=some "*errors.errorString" →u=tp:=λ u hu=>
  typeName_ptr_named (nm:= "errors.errorString") (by simp_all) i (by decide) u (by simp_all)
 obtain⟨a,s,F,_⟩:=laid_sentinel h M E C j O J q x B H y;exact⟨_,F,.inr ⟨_,_,rfl⟩,rfl⟩
end
end Go.Ab
