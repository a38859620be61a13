import Derived.Test.YtjpmdkgonlmddaaGreatDoorAbJ
import Derived.OpenShut
import Derived.LaidMore
import Derived.ChangeSame
import Derived.LaidSub
import Derived.Lib.LaidTab
import Derived.Stop.LaidErr
import Derived.LaidLaws
set_option linter.unusedVariables false
namespace Go.Ab
open Go Go.RowKit Go.Proofs
variable {P:Program}{w:World}
theorem SH{g:Nat}(zs:List (IntKind×Int))(hne:zs≠[])(h:∀j z,zs[j]? =some z→w.cell? ⟨g,j,none⟩=some (.int z.1 z.2)):
 bR (fun b=>b<w.heap.size) w (.rp (zs.map fun z=>.int z.1 z.2) 0) (.pointer (some ⟨g,0,none⟩)):=by
 have hg:g<w.heap.size:=by
  cases zs with
  |nil=>simp_all
  |cons z r=>
   have:=h 0 z rfl
   unfold World.cell? at this
   grind
 have:=bR.rp (S:=fun b=>b<w.heap.size) (w:=w) (zs.map fun z=>AV.int z.1 z.2) 0 g 0 (zs.map fun z=>Value.int z.1 z.2) hg (by simp) (fun j v hv=>?_) (fun j x v hx hv=>?_)
 ·exact this
 ·rw[Yn,Yj]at hv
  obtain⟨z,hz,rfl⟩:=hv
  refine⟨?_,rfl⟩
  grind
 ·rw[Yn,Yj]at hv hx
  obtain⟨z,hz,rfl⟩:=hv
  obtain⟨z',hz',rfl⟩:=hx
  rw[hz]at hz';cases hz';exact .int _ _
theorem DA{l:List (String×DataW Unit)}{name:String}{d:DataW Unit}(h:laidMetH P l w)(hf:(l.filter fun x=>x.1==name)=[(name,d)])(hh:d.handleName? =none):laidMet P [(name,d)] w:=by
 have:=h.filter fun x=>x.1==name
 rw[hf]at this
 obtain⟨h1,_⟩:=laidMetH_iff.1 this
 simp_all
open Go Go.RowKit
theorem L5{P:Program}{W:World}{g n:Nat}{t:TypeId}{zero:Array Value}(h:W.ShapedOpen P)(hg:g<P.globals.size)
 (h0:((begin P (fun _ _=>0) default).world.heap[g]?).bind Obj.row? =some (zero,t)) (hz:zero.size=n):∃cs t fr,W.heap[g]? =some (.cells cs t fr)∧cs.size=n:=by
 obtain⟨cs,hh,hs,_⟩:=h.1 g zero t hg h0
 simp_all
theorem SG{W:World}{g:Nat}(zs:List (IntKind×Int))(hne:zs≠[])(hc:∀j z,zs[j]? =some z→W.cell? ⟨g,j,none⟩=some (.int z.1 z.2))(hs:∃cs t fr,W.heap[g]? =some (.cells cs t fr)∧cs.size=zs.length):
 nv (fun b=>b<W.heap.size) W g (zs.map fun z=>.int z.1 z.2):=by
 refine⟨SH zs hne hc,?_⟩
 simp_all
theorem KM{P:Program}{W:World}{name:String}{k:IntKind}{zs:List Int}{g:Nat}(hT:Lib.TabIs P W name k zs)(hg:P.globalNamed name=some g)(hne:zs≠[])(hs:∃cs t fr,W.heap[g]? =some (.cells cs t fr)∧cs.size=zs.length):
 nv (fun b=>b<W.heap.size) W g (zs.map fun z=>.int k z):=by
 have e:(zs.map fun z=>AV.int k z)=(zs.map fun z=>(k,z)).map fun z=>AV.int z.1 z.2:=by rw[YP];rfl
 rw[e]
 refine SG _ (by simp_all) (fun j z hz=>?_) (by simp_all)
 rw[Yn,Yj]at hz
 obtain⟨n,hn,rfl⟩:=hz
 have hj:=(Wo.1 hn).1
 rw[hT.cell hg j hj];simp_all
theorem KL{P:Program}{W:World}{name:String}{g:Nat}{v:Value}(h:W.var? P name=some #[v])(hg:P.globalNamed name=some g)(ho:v.oneCell'=true):nv (fun b=>b<W.heap.size) W g [.ei v]:=by
 unfold World.var? at h;rw[hg,Y1]at h
 cases hh:W.heap[g]? with
 |none=>simp_all
 |some o=>
  rw[hh]at h
  cases o with
  |cells cs t fr=>
   simp only[Y2]at h;subst h
   refine⟨?_,#[v],t,fr,hh,rfl⟩
   have hlt:g<W.heap.size:=(Wn.1 hh).1
   have:=bR.rp (S:=fun b=>b<W.heap.size) (w:=W) [.ei v] 0 g 0 [v] hlt rfl (fun j x hx=>?_) (fun j x y hx hy=>?_)
   ·exact this
   ·match j,hx with
    |0,hx=>
     simp only[List.getElem?_cons_zero,Y2]at hx
     subst hx
     refine⟨?_,ho⟩
     show W.cell? ⟨g,0+0,none⟩=some v
     unfold World.cell?
     grind
    |j+1,hx=>simp at hx
   ·match j,hx,hy with
    |0,hx,hy=>
     simp only[List.getElem?_cons_zero,Y2]at hx hy
     subst hx hy;exact .ei v ho
    |j+1,hx,_=>simp at hx
  |_=>simp at h
theorem KH{P:Program}{n:String}{text:List UInt8}{W:World}{g:Nat}{ti tp te ts:TypeId}{ms:Array (String×TypeId)}{f:Field}
 (h:laidMet P [(n,.iface "*errors.errorString" (.ptr (.agg [.lit (.string text)])))] W)
 (hg:P.globalNamed n=some g) (ht:(P.globals[g]?).map (·.type)=some ti) (hi:P.underlying ti=some (.interface ms))
 (I5:((List.range P.types.size).all fun u=>P.typeName? 3 u != some "*errors.errorString" ||u==tp)=true)
 (vq:((List.range P.types.size).all fun e=>P.typeName? 2 e != some "errors.errorString" ||(match (P.info? e).map (·.desc)with|some (TypeDesc.named _ _)=>true|_=>false))=true)
 (hp:P.underlying tp=some (.pointer te)) (he:P.underlying te=some (.struct #[f])) (sC:f.type=ts) (hfo:f.offset=0) (hs:P.underlying ts=some .string) (hc:P.cellsOf te=1) (hcs:P.cellsOf ts=1):
 ∃v,W.var? P n=some #[v]∧(v=.nilIface∨∃te pe,v=.iface te pe)∧v.oneCell'=true:=by
 have star: "*" ++ "errors.errorString" = "*errors.errorString" :=by decide
 have hrow:∀u,P.typeName? 3 u=some "*errors.errorString" →u=tp:=fun u hu=>
  typeName_ptr_named (nm:= "errors.errorString") (by simp_all) vq (by decide) u (by simp_all)
 obtain⟨a,s,hv,_⟩:=laid_sentinel h hg ht hi hrow hp he sC hfo hs hc hcs
 exact⟨_,hv,.inr ⟨_,_,rfl⟩,rfl⟩
end Go.Ab
