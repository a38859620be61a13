import Derived.Test.YtjpmdkgonlmddaaGreatDoorLD
set_option linter.defProp false
set_option linter.unusedVariables false
set_option maxRecDepth 20000
namespace Go.T
open Go Go.Ab
structure RK(r:bD):Prop where
 ck:k9 FF r=some true
 ok:BY r
 cb:∀c∈r.bg,c<9223372036854775808
def RK.nm{r:bD}(h:RK r):r.Next.length≤7∧r.Match.length≤7:=by
 have i:=h.ok.cf.n7;by_cases q:r.bE=2
 ·have k:=h.ok.kn.1 q;exact⟨by rw[k.nl];exact i,by rw[k.ml];exact i⟩
 ·have k:=h.ok.kn.2 q;rw[k.1,k.2];exact⟨by decide,by decide⟩
abbrev Qn:=Int×aa×Int×Int×Int×Int×Int×Int×(List bx)×aj×Int×Int×Int×aa×aa×aa×(List cj)
def QH(h:cP)(v n m:aa)(out:List cj):Qn:=(h.Id,h.bg,h.Term,h.bn,h.bE,h.bo,h.Trail.an,h.Trail.au,h.Trail.Entries,h.bj,h.ah,h.Left,h.bK,v,n,m,out)
def RK.small{r:bD}(h:RK r):Small r:=h.ok.small
def Zv(m:cj)(hl:m.Entries.length≤1000):dh (yu FF m FF m.bM 0) λ o=>(∀b,o=.inl b→b=false)∧True:=by
 have:=dM (λ n (s:Int×Nat)=>yu FF m n s.1 (s.2:Int)) (λ s=>s.2≤m.Entries.length) (λ s=>m.Entries.length-s.2) (λ o=>(∀b,o=.inl b→b=false)∧True) (by
  rintro n ⟨tm,i⟩ j k;simp only at j k⊢;simp only[yu];refine cq (λ h=>?_) λ _=>.ret ⟨(λ r e=>by cases e),trivial⟩
  refine bV (by omega) (cM (by simp;omega) λ y _ _=>bh (Q:=λ _=>True) (cq (λ _=>.ret trivial) λ _=>cq (λ _=>.ret trivial) λ _=>.ret trivial) λ b _ _=>bu (λ _=>.ret ⟨λ r e=>by cases e;rfl,trivial⟩) λ _=>?_)
  rw[w1 (by omega)]
  exact k (y.Term,i+1) (by simp only;omega) (by simp only;omega)) FF (m.bM,0) (YL _) (by simp only[FF];omega)
 exact this
section
variable {m:cj}{h:cP}{v n q:aa}
end
section
variable {m:cj}{h:cP}{v n q:aa}
end
end Go.T
