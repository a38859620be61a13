import Derived.Test.YtjpmdkgonlmddaaGreatDoorAbG
set_option linter.unusedVariables false
namespace Go.Ab
section
variable {K:AV→List (Nat×Option AO)→bL→Prop}{P:Program}{ev:Operand→AV}{id n:Nat}{k:AV}{ol:Nat→Option AO}{t:TypeId}{α:Type}
def kT(ev:Operand→AV)(o:Option Operand)(d:Nat)(K:Nat→Prop):Prop:=
 match o with
 |none=>K d
 |some x=>match ev x with
  |.int _ i=>0≤i∧K i.toNat
  |_=>False
def cut{α:Type}(lo i:Option Operand)(xs:List α)(a b:Nat):List α:=
 match lo,i with
 |none,none=>xs
 |none,some _=>xs.take b
 |some _,none=>xs.drop a
 |some _,some _=>(xs.take b).drop a
theorem uI{o:Option Operand}{d:Nat}{K:Nat→Prop}(h:kT ev o d K):∃n,gg ev o d n∧K n:=by
 unfold kT at h;split at h
 ·exact⟨d,rfl,h⟩
 ·rename_i x;split at h
  ·rename_i k i e;exact⟨i.toNat,⟨k,i,e,h.1,rfl⟩,h.2⟩
  simp_all
theorem L7{lo i:Option Operand}{xs:List α}{a b:Nat}(j:gg ev lo 0 a)(o:gg ev i xs.length b):cut lo i xs a b=(xs.take b).drop a:=by
 unfold cut;split
 ·simp only[gg]at j o;simp_all
 ·simp only[gg]at j;simp_all
 ·simp only[gg]at o;simp_all
 ·rfl
def eF(n:Nat)(rs:List (List AV)):Prop:=∀r∈rs,r.length=n
theorem eF.nil:eF n []:=λ r h=>by cases h
theorem eF.cons{r:List AV}{rs:List (List AV)}(h:r.length=n)(j:eF n rs):eF n (r::rs):=λ x i=>by
 rcases Yr.1 i with rfl|i
 ·exact h
 ·exact j x i
theorem eF.map{f:α→List AV}{l:List α}(h:∀x,(f x).length=n):eF n (l.map f):=λ r hr=>by
 grind
theorem eF.append{rs j:List (List AV)}(h:eF n rs)(o:eF n j):eF n (rs++j):=λ r i=>by
 rcases YA.1 i with i|i
 ·exact h r i
 ·exact o r i
def lO(P:Program)(kt:TypeId)(k:AV):List (AV×AV)→Nat→(Option Nat→Prop)→Prop
 | [],_,K=>K none
 |e::es,i,K=>match dE P kt k e.1 with
  |some b=>uF b (K (some i)) (lO P kt k es (i+1) K)
  |none=>False
theorem IV{kt:TypeId}:∀{es:List (AV×AV)} {i:Nat} {K:Option Nat→Prop},lO P kt k es i K→∃r,gM P kt k es i r∧K r:=by
 intro es;induction es with
 |nil=>intro i K h;exact⟨none,rfl,h⟩
 |cons e es ih=>
  intro i K h;simp only[lO]at h;split at h
  ·rename_i b j;rcases gD h with ⟨rfl,h⟩|⟨rfl,h⟩
   ·exact⟨some i,.inl ⟨j,rfl⟩,h⟩
   ·obtain⟨r,h1,o⟩:=ih h;exact⟨r,.inr ⟨j,h1⟩,o⟩
  simp_all
def fE:List (AV×AV)→(List (AV×AV)→Prop)→Prop
 | [],K=>K []
 |e::r,K=>iK e.1 λ a=>iK e.2 λ b=>fE r λ r=>K ((a,b)::r)
theorem vM:∀(l:List (AV×AV)) (K:List (AV×AV)→Prop),fE l K=K l
 | [],K=>rfl
 |e::r,K=>by simp only[fE];rw[lY,lY,vM]
def IN(P:Program)(t:TypeId)(es:List (AV×AV))(r:Option Nat)(K:AV→Bool→Prop):Prop:=
 Option.rec (motive:=λ _=>Prop) (opt (gT P t) λ vt=>opt (zeroV P vt) λ v=>iK v λ v=>K v false) (λ i=>opt (es[i]?) λ e=>iK e.2 λ v=>K v true) r
def fM(p:Bool)(es:List (AV×AV))(K:AO→Prop):Prop:=
 Bool.rec (motive:=λ _=>Prop) (fE es λ es=>K (.bm false es)) (fE es λ es=>K (.bm true es)) p
theorem vL(p:Bool)(es:List (AV×AV))(K:AO→Prop):fM p es K=K (.bm p es):=by
 cases p<;>(simp only[fM];rw[vM])
def fH{κ ν:Type}(ek:κ→AV)(en:ν→AV)(L:List (κ×ν)):List (AV×AV):=L.map λ p=>(ek p.1,en p.2)
def az{κ ν:Type}[DecidableEq κ](q:κ):List (κ×ν)→Option ν
 | []=>none
 |e::r=>if q=e.1 then some e.2 else az q r
def bW{κ ν:Type}[DecidableEq κ](q:κ)(x:ν):List (κ×ν)→List (κ×ν)
 | []=>[(q,x)]
 |e::r=>if q=e.1 then(q,x)::r else e::bW q x r
def mix{κ ν:Type}[DecidableEq κ](q:κ):List (κ×ν)→Option Nat
 | []=>none
 |e::r=>if q=e.1 then some 0 else(mix q r).map (· +1)
structure yL(P:Program)(kt:TypeId)(es:List (AV×AV))(k v:AV)(p:Bool)(K:AO→Prop):Prop where
 h:∃r v',Wk v v'∧gM P kt k es 0 r∧es.length+1≤bI∧K (.bm (p&&vX v') (jq es r k v'))
structure wU(P:Program)(t kt:TypeId)(es:List (AV×AV))(k:AV)(K:AV→Bool→Prop):Prop where
 h:∃(r:Option Nat) (v:AV),gM P kt k es 0 r∧((∃i e,r=some i∧es[i]? =some e∧v=e.2)∨(r=none∧∃vt zv,gT P t=some vt∧zeroV P vt=some zv∧Wk zv v))∧K v r.isSome
structure pG(P:Program)(t kt:TypeId)(ok:Bool)(k:AV)(o z:Nat)(fs:List (AV×List (List AV)))(h:Option (Nat×Nat))(id:Nat)(K:AV→List (Nat×Option AO)→bL→Prop):Prop where
 h:(∃i e,h=none∧gM P kt k (fy fs) 0 (some i)∧fs[i]? =some e∧K (if ok then .cx [.bf id z,.bool true]else .bf id z) [(id,some (.rows true e.2)),(o,some (.cw z fs (some (i,id))))] [])∨
  (∃r,ok=true∧gM P kt k (fy fs) 0 r∧(∃vt zv,gT P t=some vt∧zeroV P vt=some zv)∧K (.cx [.undef,.bool r.isSome]) [] [o])∨
  (∃v,gM P kt k (fy fs) 0 none∧(∃vt zv,gT P t=some vt∧zeroV P vt=some zv∧Wk zv v)∧K (if ok then .cx [v,.bool false]else v) [] [o])
structure yN(P:Program)(kt:TypeId)(k v:AV)(o z:Nat)(fs:List (AV×List (List AV)))(h:Option (Nat×Nat))(ol:Nat→Option AO)(K:List (Nat×Option AO)→Prop):Prop where
 h:∃r q rs,gM P kt k (fy fs) 0 r∧EB h r∧fs.length+1≤bI∧v=.bf q z∧ol q=some (.rows true rs)∧(∀row∈rs,row.length=z)∧0<z∧q≠o∧
  K [(o,some (.cw z (jo fs r k rs) none)),(q,none)]
structure DF(P:Program)(kt:TypeId)(k:AV)(o z:Nat)(fs:List (AV×List (List AV)))(h:Option (Nat×Nat))(K:List (Nat×Option AO)→Prop):Prop where
 h:∃r,gM P kt k (fy fs) 0 r∧EB h r∧K [(o,some (.cw z (lD fs r) none))]
structure FMk(id:Nat)(K:AV→List (Nat×Option AO)→bL→Prop):Prop where
 h:(∃z,K (.bm id) [(id,some (.cw z [] none))] [])∨K (.bm id) [(id,some (.cF [] none))] []
structure pF(P:Program)(t kt:TypeId)(ok:Bool)(k:AV)(o:Nat)(es:List (AV×Gr))(h:Option (Nat×Nat))(id:Nat)(K:AV→List (Nat×Option AO)→bL→Prop):Prop where
 h:(∃i e,h=none∧gM P kt k (gB es) 0 (some i)∧es[i]? =some e∧e.2.length≤W∧K (if ok then .cx [.ptr id 0 0,.bool true]else .ptr id 0 0) (qd id (sW 0 e.2)++[(o,some (.cF es (some (i,id))))]) [])∨
  (∃i q,h=some (i,q)∧gM P kt k (gB es) 0 (some i)∧K (if ok then .cx [.ptr q 0 0,.bool true]else .ptr q 0 0) [] [o])∨
  (∃v,gM P kt k (gB es) 0 none∧(∃vt zv,gT P t=some vt∧zeroV P vt=some zv∧Wk zv v)∧K (if ok then .cx [v,.bool false]else v) [] [o])
structure yM(P:Program)(kt:TypeId)(k v:AV)(o:Nat)(es:List (AV×Gr))(h:Option (Nat×Nat))(K:List (Nat×Option AO)→Prop):Prop where
 h:∃q g0,h=none∧gM P kt k (gB es) 0 none∧es.length+1≤bI∧v=.ptr q 0 0∧K [(o,some (.cF (es++[(k,g0)]) (some (es.length,q))))]
structure DD(P:Program)(kt:TypeId)(es:List (AV×AV))(k:AV)(p:Bool)(K:AO→Prop):Prop where
 h:∃r,gM P kt k es 0 r∧K (.bm p (lE es r))
structure KT(P:Program)(ev:Operand→AV)(ol:Nat→Option AO)(id o z sz:Nat)(lo hi:Option Operand)(K:AV→List (Nat×Option AO)→bL→Prop):Prop where
 h:∃rs pS,lo=none∧hi=some pS∧ol o=some (.rows true rs)∧z=sz∧kT ev (some pS) rs.length λ b=>b≤rs.length∧K (.bf id z) [(id,some (.rows true (rs.take b))),(o,none)] []
section
variable {P:Program}{t kt:TypeId}{κ ν:Type}[DecidableEq κ]{ek:κ→AV}{en:ν→AV}
theorem zt(j:∀a b,dE P kt (ek a) (ek b)=some (decide (a=b)))(q:κ):∀(L:List (κ×ν)) (i:Nat),gM P kt (ek q) (fH ek en L) i ((mix q L).map (· +i))
 | [],i=>rfl
 |e::r,i=>by
  simp only[fH,Yy,gM,mix,j];by_cases h:q=e.1
  ·simp_all
  ·right;simp only[h,Ym,Option.map_map,decide_false,true_and];have:=zt j q r (i+1);rw[show((λ x=>x+i)∘(λ x=>x+1))=(λ x:Nat=>x+(i+1)) by grind]
   exact this
theorem v7(q:κ):∀(L:List (κ×ν)),(mix q L=none∧az q L=none)∨∃j e,mix q L=some j∧L[j]? =some e∧az q L=some e.2
 | []=>.inl ⟨rfl,rfl⟩
 |e::r=>by
  by_cases h:q=e.1
  ·exact .inr ⟨0,e,by simp[mix,h],rfl,by simp[az,h]⟩
  ·rcases v7 q r with ⟨h1,i⟩|⟨j,o,h1,i,p⟩
   ·exact .inl ⟨by simp[mix,h,h1],by simp[az,h,i]⟩
   ·exact .inr ⟨j+1,o,by simp[mix,h,h1],by simp_all,by simp[az,h,p]⟩
theorem MH(q:κ)(x:ν):∀(L:List (κ×ν)),jq (fH ek en L) (mix q L) (ek q) (en x)=fH ek en (bW q x L)
 | []=>rfl
 |e::r=>by
  by_cases h:q=e.1
  ·simp[mix,h,jq,fH,bW]
  ·have:=MH q x r;simp only[mix,h,Ym,bW];cases hm:mix q r with
   |none=>rw[hm]at this;simp only[jq,V8,fH,Yy,YC]at this⊢;rw[this]
   |some j=>rw[hm]at this;simp only[jq,YE,fH,Yy,List.modify_succ_cons]at this⊢;rw[this]
theorem TH{es:List (AV×AV)}{v:AV}{p:Bool}{K:AO→Prop}(L:List (κ×ν))(q:κ)(x:ν)(i:es=fH ek en L)(u:k=ek q)(A:Wk v (en x))(y:(p&&vX (en x))=true)
 (j:∀a b,dE P kt (ek a) (ek b)=some (decide (a=b))) (z:L.length+1≤bI) (o:K (.bm true (fH ek en (bW q x L)))):yL P kt es k v p K:=by
 subst i;subst u;have h1:=zt (en:=en) j q L 0;rw[show(λ x:Nat=>x+0)=id from rfl,Uc,id]at h1
 exact⟨_,en x,A,h1,by simpa[fH]using z,by rw[MH,y];exact o⟩
theorem UW{es:List (AV×AV)}{K:AV→Bool→Prop}(L:List (κ×ν))(q:κ)(z:ν)(p:es=fH ek en L)(C:k=ek q)
 (y:∀a b,dE P kt (ek a) (ek b)=some (decide (a=b))) (B:∃vt A,gT P t=some vt∧zeroV P vt=some A∧Wk A (en z))
 (i:K (en ((az q L).getD z)) (az q L).isSome):wU P t kt es k K:=by
 subst p;subst C;have h1:=zt (en:=en) y q L 0;rw[show(λ x:Nat=>x+0)=id from rfl,Uc,id]at h1
 rcases v7 q L with ⟨u,o⟩|⟨j,e,u,o,E⟩
 ·rw[o]at i;rw[u]at h1;exact⟨none,_,h1,.inr ⟨rfl,B⟩,i⟩
 ·rw[E]at i;rw[u]at h1;exact⟨some j,_,h1,.inl ⟨j,(ek e.1,en e.2),rfl,by simp[fH,o],rfl⟩,i⟩
theorem bq[DecidableEq α](a b:α):(a==b)=decide (a=b):=by
 rfl
theorem ku{k q:IntKind}(h:P.underlying kt=some (.int k))(a b:Int):dE P kt (.int q a) (.int q b)=some (decide (a=b)):=by
 simp only[dE,h];rfl
theorem nJ(h:P.underlying kt=some .string)(a b:aj):dE P kt (.str a) (.str b)=some (decide (a=b)):=by
 simp only[dE,h];grind
theorem Jo{fs:Array Field}(h:P.underlying kt=some (.struct fs))(q r:IntKind)(a b a' b':Int):
 dE P kt (.agg [.int q a,.int r b]) (.agg [.int q a',.int r b'])=some (decide (a=a'∧b=b')):=by
 simp only[dE,h];simp[bq]
end
def IP(P:Program)(ev:Operand→AV)(ol:Nat→Option AO)(id:Nat)(t:TypeId)(x:Operand)(lo i:Option Operand)(K:AV→List (Nat×Option AO)→bL→Prop):Prop:=
 match ev x with
 |.str l=>match P.underlying t with
  |some .string=>kT ev lo 0 λ a=>kT ev i l.length λ b=>a≤b∧b≤l.length∧K (.str (cut lo i l a b)) [] []
  |_=>False
 |.sl xs=>opt (eN P t) λ sz=>(match lo with|none=>True|some _=>eF sz xs)∧kT ev lo 0 λ a=>kT ev i xs.length λ b=>a≤b∧b≤xs.length∧K (.sl (cut lo i xs a b)) [] []
 |.bf o z=>opt (eN P t) λ sz=>opt (jc ol o) λ rs=>eF sz rs∧((kT ev lo 0 λ a=>kT ev i rs.length λ b=>a≤b∧b≤rs.length∧K (.fp o a (b-a) (rs.length-a)) [] [o])∨KT P ev ol id o z sz lo i K)
 |.fp o off len room=>opt (eN P t) λ sz=>opt (jc ol o) λ rs=>eF sz rs∧off+room≤rs.length∧kT ev lo 0 λ a=>kT ev i len λ b=>a≤b∧b≤len∧K (.fp o (off+a) (b-a) (room-a)) [] [o]
 |_=>False
def MY(P:Program)(ev:Operand→AV)(ol:Nat→Option AO)(id:Nat)(t tx:TypeId)(s x:Operand)(K:AV→List (Nat×Option AO)→bL→Prop):Prop:=
 match ev s with
 |.dK=>opt (dG ol (ev x)) λ q=>opt (eN P t) λ sz=>kS (je P tx) (eF sz q.2.1∧q.2.1.length≤bI∧fU q.1 q.2.1 λ y=>K (.bf id sz) [(id,some y)] q.2.2) False
 |.bf o z=>match ol o with
  |some (.rows p rs)=>opt (dG ol (ev x)) λ q=>opt (eN P t) λ sz=>kS (je P tx&&decide (z=sz)) (eF sz q.2.1∧eF sz rs∧rs.length+q.2.1.length≤bI∧
   fU (p&&q.1) (rs++q.2.1) λ y=>K (.bf id sz) [(id,some y),(o,none)] q.2.2) False
  |_=>False
 |_=>False
def jl(P:Program)(ev:Operand→AV)(ol:Nat→Option AO)(id:Nat)(op:Op)(K:AV→List (Nat×Option AO)→bL→Prop):Prop:=
 match op with
 |.slice t x lo hi none=>IP P ev ol id t x lo hi K
 |.slice t x none (some h) (some m)=>match ev h,ev m with
  |.int _ h,.int _ m=>match ev x with
   |.str _=>False
   |y=>opt (eN P t) λ _=>opt (dG ol y) λ q=>kS (decide (h=0)&&decide (m=0)) (K .dK [] q.2.2) False
  |_,_=>False
 |.makeSlice t l c=>match ev l,ev c with
  |.int _ n,.int _ m=>opt (eN P t) λ sz=>opt (gP P t) λ z=>fL z λ z=>0≤n∧n≤m∧m≤bI∧K (.bf id sz) [(id,some (.rows true (List.replicate n.toNat z)))] []
  |_,_=>False
 |.buildSlice t len parts=>opt (eN P t) λ sz=>opt (gP P t) λ z=>opt (fZ ev (λ i=>some (i*sz,sz)) parts.toList (List.replicate len z).flatten) λ cs=>fL cs λ cs=>
  kS (decide (len*sz≤16777216)&&decide (len≤bI)&&decide (cs.length=len*sz)&&cs.all kp) (fU (cs.all iy) (chunk sz len cs) λ y=>K (.bf id sz) [(id,some y)] []) False
 |.convert s d x=>match ev x with
  |.str l=>kS (sY P s d) (l.length≤bI∧K (.bf id 1) [(id,some (.rows true (gY l)))] []) False
  |y=>opt (dG ol y) λ q=>kS (sY P d s) (∃l,q.2.1=gY l∧K (.str l) [] q.2.2) False
 |.makeMap t none=>kS (dL P t).isSome (K (.bm id) [(id,some (.bm true []))] []) False
 |.makeMap t (some x)=>match ev x with
  |.int _ _=>kS (dL P t).isSome (K (.bm id) [(id,some (.bm true []))] []) False
  |_=>False
 |.mapUpdate t m k x=>match ev m with
  |.bm o=>match ol o with
   |some (.bm p es)=>opt (dL P t) λ kt=>dT P kt (ev k)=true∧((lO P kt (ev k) es 0 λ r=>es.length+1≤bI∧fM (p&&vX (ev x)) (jq es r (ev k) (ev x)) λ y=>K .undef [(o,some y)] [])∨
    yL P kt es (ev k) (ev x) p λ y=>K .undef [(o,some y)] [])
   |_=>False
  |_=>False
 |.insert t m k x=>match ev m with
  |.bm o=>match ol o with
   |some (.bm p es)=>opt (dL P t) λ kt=>dT P kt (ev k)=true∧((lO P kt (ev k) es 0 λ r=>es.length+1≤bI∧fM (p&&vX (ev x)) (jq es r (ev k) (ev x)) λ y=>K .undef [(o,some y)] [])∨
    yL P kt es (ev k) (ev x) p λ y=>K .undef [(o,some y)] [])
   |_=>False
  |_=>False
 |.lookup t m k ok=>match ev m with
  |.bm o=>match ol o with
   |some (.bm _ es)=>opt (dL P t) λ kt=>dT P kt (ev k)=true∧((lO P kt (ev k) es 0 λ r=>IN P t es r λ v fd=>match ok with|true=>K (.cx [v,.bool fd]) [] [o]|false=>K v [] [o])∨
    wU P t kt es (ev k) λ v fd=>match ok with|true=>K (.cx [v,.bool fd]) [] [o]|false=>K v [] [o])
   |_=>False
  |.eT (.map none)=>opt (dL P t) λ kt=>dT P kt (ev k)=true∧(opt (gT P t) λ vt=>opt (zeroV P vt) λ v=>iK v λ v=>match ok with|true=>K (.cx [v,.bool false]) [] []|false=>K v [] [])
  |_=>False
 |.call {callee:=.builtin .append,args,argTypes}=>match args.toList,argTypes.toList with
  | [s,x],[t,tx]=>MY P ev ol id t tx s x K
  |_,_=>False
 |_=>False
def GY(ev:Operand→AV)(ol:Nat→Option AO)(m:Operand):Bool:=
 match ev m with
 |.bm o=>(match ol o with|some (.cw ..)=>true|_=>false)
 |_=>false
def tP(b:Bool)(A B:Prop):Prop:=Bool.rec (motive:=λ _=>Prop) B A b
theorem vv{b:Bool}{A B:Prop}(h:tP b A B):A∨B:=by
 cases b
 ·exact .inr h
 ·exact .inl h
def Az:AO→AO
 |.rows _ rs=>.lit rs
 |x=>x
def KR(A:Prop):Prop:=A
structure LY(P:Program)(t:TypeId)(id:Nat)(K:AV→List (Nat×Option AO)→bL→Prop):Prop where
 h:∃k z cs,iM P t=some cs∧cs[k]? =some AV.dK∧K (.ptr id 0 0) [(id,some (.rows false [setAt cs k [.bf (id+1) z]])),(id+1,some (.rows true []))] []
structure DH(v:AV)(t:TypeId)(id:Nat)(K:AV→List (Nat×Option AO)→bL→Prop):Prop where
 h:∃k z cs,lv v=some cs∧cs[k]? =some AV.dK∧K (.ptr id 0 0) [(id,some (.rows false [setAt cs k [.bf (id+1) z]])),(id+1,some (.rows true []))] []
structure LZ(P:Program)(ev:Operand→AV)(t:TypeId)(ps:Array (Nat×Operand))(id:Nat)(K:AV→List (Nat×Option AO)→bL→Prop):Prop where
 h:∃k z cs,xF P ev t ps=some (.agg cs)∧cs[k]? =some AV.dK∧K (.agg (setAt cs k [.bf id z])) [(id,some (.rows true []))] []
theorem Cb{ps:Array (Nat×Operand)}(k z:Nat)(cs:List AV)(j:xF P ev t ps=some (.agg cs))(i:cs[k]? =some AV.dK)
 (h:K (.agg (setAt cs k [.bf id z])) [(id,some (.rows true []))] []):LZ P ev t ps id K:=⟨k,z,cs,j,i,h⟩
theorem L5{v:AV}(k z:Nat)(cs:List AV)(j:lv v=some cs)(i:cs[k]? =some AV.dK)
 (h:K (.ptr id 0 0) [(id,some (.rows false [setAt cs k [.bf (id+1) z]])),(id+1,some (.rows true []))] []):DH v t id K:=⟨k,z,cs,j,i,h⟩
theorem NR(k z:Nat)(cs:List AV)(j:iM P t=some cs)(i:cs[k]? =some AV.dK)
 (h:K (.ptr id 0 0) [(id,some (.rows false [setAt cs k [.bf (id+1) z]])),(id+1,some (.rows true []))] []):LY P t id K:=⟨k,z,cs,j,i,h⟩
def ky(P:Program)(ev:Operand→AV)(ol:Nat→Option AO)(id:Nat)(op:Op)(K:AV→List (Nat×Option AO)→bL→Prop):Prop:=
 match op with
 |.mapUpdate t m k x=>match ev m with
  |.bm o=>match ol o with
   |some (.cw z fs h)=>opt (dL P t) λ kt=>dT P kt (ev k)=true∧yN P kt (ev k) (ev x) o z fs h ol λ U=>K .undef U []
   |_=>False
  |_=>False
 |.insert t m k x=>match ev m with
  |.bm o=>match ol o with
   |some (.cw z fs h)=>opt (dL P t) λ kt=>dT P kt (ev k)=true∧yN P kt (ev k) (ev x) o z fs h ol λ U=>K .undef U []
   |_=>False
  |_=>False
 |.lookup t m k ok=>match ev m with
  |.bm o=>match ol o with
   |some (.cw z fs h)=>opt (dL P t) λ kt=>dT P kt (ev k)=true∧pG P t kt ok (ev k) o z fs h id K
   |_=>False
  |_=>False
 |.call {callee:=.builtin .delete,args,argTypes}=>match args.toList,argTypes.toList with
  | [m,k],[t,_]=>match ev m with
   |.bm o=>match ol o with
    |some (.cw z fs h)=>opt (dL P t) λ kt=>dT P kt (ev k)=true∧DF P kt (ev k) o z fs h λ U=>K (.cx []) U []
    |some (.bm p es)=>opt (dL P t) λ kt=>dT P kt (ev k)=true∧DD P kt es (ev k) p λ y=>K (.cx []) [(o,some y)] []
    |_=>False
   |_=>False
  |_,_=>False
 |.call {callee:=.builtin .clear,args,argTypes}=>match args.toList,argTypes.toList with
  | [x],[t]=>match ev x with
   |.fp o off len room=>match ol o with
    |some (.rows true rs)=>opt (eN P t) λ sz=>opt (gP P t) λ z=>fL z λ z=>eF sz rs∧off+room≤rs.length∧K (.cx []) [(o,some (.rows true (rs.take off++(List.replicate len z++rs.drop (off+len)))))] []
    |_=>False
   |_=>False
  |_,_=>False
 |.call {callee:=.builtin .copy,args,argTypes}=>match args.toList,argTypes.toList with
  | [d,s],[t,_]=>match ev d with
   |.bf o _=>match ol o with
    |some (.rows p rs)=>opt (eN P t) λ sz=>opt (dG ol (ev s)) λ q=>eF sz rs∧eF sz q.2.1∧K (.int .i64 (min rs.length q.2.1.length:Nat)) [(o,some (.rows (p&&q.1) (rs.take 0++(q.2.1.take (min rs.length q.2.1.length)++rs.drop (0+min rs.length q.2.1.length)))))] q.2.2
    |_=>False
   |.fp o off len room=>match ol o with
    |some (.rows p rs)=>opt (eN P t) λ sz=>opt (dG ol (ev s)) λ q=>eF sz rs∧eF sz q.2.1∧off+room≤rs.length∧K (.int .i64 (min len q.2.1.length:Nat)) [(o,some (.rows (p&&q.1) (rs.take off++(q.2.1.take (min len q.2.1.length)++rs.drop (off+min len q.2.1.length)))))] q.2.2
    |_=>False
   |_=>False
  |_,_=>False
 |.buildSlice t len parts=>opt (eN P t) λ sz=>opt (gP P t) λ z=>opt (fZ ev (λ i=>some (i*1,1)) parts.toList (List.replicate len z).flatten) λ cs=>fL cs λ cs=>
  kS (Nat.beq sz 1&&decide (len*1≤16777216)&&decide (len≤bI)&&decide (0<len)&&decide (cs.length=len*1)&&cs.all kp&&cs.all iy) (fU true (chunk 1 len cs) λ y=>K (.bf id 1) [(id,some (Az y))] []) False
 |.convert s d x=>match ev x with
  |.bf o z=>match ol o with
   |some (.lit rs)=>kS (sd P s d&&Nat.beq z 1) (K (.bf o 1) [(o,some (.rows true rs))] []) False
   |_=>False
  |_=>False
 |_=>False
def w6(ev:Operand→AV)(ol:Nat→Option AO)(m:Operand):Bool:=
 match ev m with
 |.bm o=>(match ol o with|some (.cF ..)=>true|_=>false)
 |_=>false
def pI(P:Program)(ev:Operand→AV)(ol:Nat→Option AO)(id:Nat)(op:Op)(K:AV→List (Nat×Option AO)→bL→Prop):Prop:=
 match op with
 |.mapUpdate t m k x=>match ev m with
  |.bm o=>match ol o with
   |some (.cF es h)=>opt (dL P t) λ kt=>dT P kt (ev k)=true∧yM P kt (ev k) (ev x) o es h λ U=>K .undef U []
   |_=>False
  |_=>False
 |.insert t m k x=>match ev m with
  |.bm o=>match ol o with
   |some (.cF es h)=>opt (dL P t) λ kt=>dT P kt (ev k)=true∧yM P kt (ev k) (ev x) o es h λ U=>K .undef U []
   |_=>False
  |_=>False
 |.lookup t m k ok=>match ev m with
  |.bm o=>match ol o with
   |some (.cF es h)=>opt (dL P t) λ kt=>dT P kt (ev k)=true∧pF P t kt ok (ev k) o es h id K
   |_=>False
  |_=>False
 |_=>False
theorem UK{op:Op}
 (h:pI P ev ol id op K):∃v U RO,GStep P ev ol id op v U RO∧K v U RO:=by
 unfold pI at h;split at h
 ·rename_i t m k x;split at h
  ·rename_i o p;split at h
   ·rename_i es A ho;obtain⟨kt,j,h⟩:=bN h;obtain⟨u,q,C,rfl,y,z,B,h⟩:=h;exact⟨_,_,_,.put _ t kt m k x (.inl rfl) o q es p ho j u y z B C,h⟩
   simp_all
  simp_all
 ·rename_i t m k x;split at h
  ·rename_i o p;split at h
   ·rename_i es A ho;obtain⟨kt,j,h⟩:=bN h;obtain⟨u,q,C,rfl,y,z,B,h⟩:=h;exact⟨_,_,_,.put _ t kt m k x (.inr rfl) o q es p ho j u y z B C,h⟩
   simp_all
  simp_all
 ·rename_i t m k ok;split at h
  ·rename_i o p;split at h
   ·rename_i es A ho;obtain⟨kt,j,h⟩:=bN h;obtain⟨u,h⟩:=h;rcases h.h with ⟨i,e,rfl,h1,y,z,h⟩|⟨i,q,rfl,h1,h⟩|⟨v,h1,y,h⟩
    ·exact⟨_,_,_,.look t kt m k ok o es i e p ho j u h1 y z,h⟩
    ·exact⟨_,_,_,.same t kt m k ok o q es i p ho j u h1,h⟩
    ·exact⟨_,_,_,.ic t kt m k ok o es A v p ho j u h1 y,h⟩
   simp_all
  simp_all
 simp_all
theorem pZ{a:Array α}{x y:α}(h:a.toList=[x,y]):a=#[x,y]:=by
 grind
theorem BW{a:Array α}{x:α}(h:a.toList=[x]):a=#[x]:=by
 grind
theorem iu{b:Bool}{A:Prop}(h:kS b A False):b=true∧A:=by
 rcases gD h with h|⟨_,h⟩
 all_goals simp_all
theorem zl{op:Op}
 (h:ky P ev ol id op K):∃v U RO,eO P ev ol id op v U RO∧K v U RO:=by
 unfold ky at h;split at h
 ·rename_i t m k x;split at h
  ·rename_i o B;split at h
   ·rename_i z fs C ho;obtain⟨kt,u,h⟩:=bN h;obtain⟨j,r,q,rs,h1,A,Y,Q,X,Z,h7,R,h⟩:=h;exact⟨_,_,_,.fq _ t kt m k x (.inl rfl) o z q fs C r rs B ho u j h1 A Y Q X Z h7 R,h⟩
   simp_all
  simp_all
 ·rename_i t m k x;split at h
  ·rename_i o B;split at h
   ·rename_i z fs C ho;obtain⟨kt,u,h⟩:=bN h;obtain⟨j,r,q,rs,h1,A,Y,Q,X,Z,h7,R,h⟩:=h;exact⟨_,_,_,.fq _ t kt m k x (.inr rfl) o z q fs C r rs B ho u j h1 A Y Q X Z h7 R,h⟩
   simp_all
  simp_all
 ·rename_i t m k ok;split at h
  ·rename_i o B;split at h
   ·rename_i z fs C ho;obtain⟨kt,u,h⟩:=bN h;obtain⟨j,h⟩:=h;rcases h.h with ⟨i,e,rfl,h1,A,h⟩|⟨r,rfl,h1,A,h⟩|⟨v,h1,A,h⟩
    ·exact⟨_,_,_,.look t kt m k ok o z fs i e B ho u j h1 A,h⟩
    ·exact⟨_,_,_,.tO t kt m k o z fs C r B ho u j h1 A,h⟩
    ·exact⟨_,_,_,.ic t kt m k ok o z fs C v B ho u j h1 A,h⟩
   simp_all
  simp_all
 ·rename_i args ts;split at h
  ·rename_i m k t tk J H;rw[pZ J,pZ H];split at h
   ·rename_i o B;split at h
    ·rename_i z fs C ho;obtain⟨kt,u,h⟩:=bN h;obtain⟨j,r,h1,A,h⟩:=h;exact⟨_,_,_,.del t tk kt m k o z fs C r B ho u j h1 A,h⟩
    ·rename_i p es ho;obtain⟨kt,u,h⟩:=bN h;obtain⟨j,r,h1,h⟩:=h;exact⟨_,_,_,.sa t tk kt m k o p es r B ho u j h1,h⟩
    simp_all
   simp_all
  simp_all
 ·rename_i args ts;split at h
  ·rename_i x t J H;rw[BW J,BW H];split at h
   ·rename_i o off len room V;split at h
    ·rename_i rs ho;obtain⟨sz,y,h⟩:=bN h;obtain⟨z,T,h⟩:=bN h;rw[ir]at h;obtain⟨F,O,h⟩:=h;exact⟨_,_,_,.BQ t x o off len room true rs z sz V ho y T F O,h⟩
    simp_all
   simp_all
  simp_all
 ·rename_i args ts;split at h
  ·rename_i d s t _ J H;rw[pZ J,pZ H];split at h
   ·rename_i o z hd;split at h
    ·rename_i p rs ho;obtain⟨sz,y,h⟩:=bN h;obtain⟨q,hq,F,E,h⟩:=bN h;exact⟨_,_,_,.copy t _ d s o 0 rs.length p rs q sz ho (.inl ⟨z,hd,rfl,rfl⟩) hq y F E,h⟩
    simp_all
   ·rename_i o off len room hd;split at h
    ·rename_i p rs ho;obtain⟨sz,y,h⟩:=bN h;obtain⟨q,hq,F,E,O,h⟩:=bN h;exact⟨_,_,_,.copy t _ d s o off len p rs q sz ho (.inr ⟨room,hd,O⟩) hq y F E,h⟩
    simp_all
   simp_all
  simp_all
 ·rename_i t len parts;obtain⟨sz,y,h⟩:=bN h;obtain⟨z,T,h⟩:=bN h;obtain⟨cs,sU,h⟩:=bN h;rw[ir]at h;obtain⟨j,M⟩:=iu h;rw[kP]at M;simp only[Yi,YB]at j;have h1:=Uh j.1.1.1.1.1.1;subst h1;exact⟨_,_,_,.tW t len parts z cs y T j.1.1.1.1.1.2 j.1.1.1.1.2 j.1.1.1.2 j.1.1.2 j.1.2 j.2 sU,M⟩
 ·rename_i s d x;split at h
  ·rename_i o z V;split at h
   ·rename_i rs ho;obtain⟨j,M⟩:=iu h;rw[Yi]at j;have h1:=Uh j.2;subst h1;exact⟨_,_,_,.Ep s d x o rs V ho j.1,M⟩
   simp_all
  simp_all
 simp_all
theorem ZpJ{x:Operand}{lo E:Option Operand}
 (h:IP P ev ol id t x lo E K):∃v U RO,ey P ev ol id (.slice t x lo E none) v U RO∧K v U RO:=by
 unfold IP at h;split at h
 ·rename_i l u;split at h
  ·rename_i R;obtain⟨a,q,h⟩:=uI h;obtain⟨b,p,h1,B,h⟩:=uI h;rw[L7 q p]at h;exact⟨_,_,_,.oC t x lo E l a b u R q p h1 B,h⟩
  simp_all
 ·rename_i xs u;obtain⟨sz,j,C,h⟩:=bN h;obtain⟨a,q,h⟩:=uI h;obtain⟨b,p,h1,B,h⟩:=uI h;rw[L7 q p]at h;refine⟨_,_,_,.tL t x lo E xs a b sz u j ?_ q p h1 B,h⟩;cases lo with
  |none=>exact .inl q
  |some _=>exact .inr C
 ·rename_i o z u;obtain⟨sz,j,h⟩:=bN h;obtain⟨rs,i,C,h⟩:=bN h;rcases h with h|⟨H,M,T,Y,ho,X,Q⟩
  rotate_left
  ·subst T;subst Y;subst X;obtain⟨b,p,J,V⟩:=uI Q;have:rs=H:=by
    unfold jc at i;rw[ho]at i;injection i with i;exact i.symm
   subst this;exact⟨_,_,_,.uE t x M o z b rs u ho C j p J,V⟩
  obtain⟨a,q,h⟩:=uI h;obtain⟨b,p,h1,B,h⟩:=uI h;obtain⟨y,F,A⟩:=xU i;exact⟨_,_,_,.oD t x lo E o z a b sz y rs u F A C j q p h1 B,h⟩
 ·rename_i o off len room u;obtain⟨sz,j,h⟩:=bN h;obtain⟨rs,i,C,O,h⟩:=bN h;obtain⟨a,q,h⟩:=uI h;obtain⟨b,p,h1,B,h⟩:=uI h;obtain⟨y,F,A⟩:=xU i;exact⟨_,_,_,.oE t x lo E o off len room a b sz y rs u F A C j q p h1 B O,h⟩
 simp_all
theorem UJ{op:Op}
 (h:jl P ev ol id op K):∃v U RO,ey P ev ol id op v U RO∧K v U RO:=by
 unfold jl at h;split at h
 ·exact ZpJ h
 ·rename_i t x hh m;split at h
  ·rename_i k1 h1 k2 m1 T B;split at h
   ·grind
   ·rename_i F;obtain⟨sz,A,h⟩:=bN h;obtain⟨q,M,h⟩:=bN h;obtain⟨j,h⟩:=iu h;simp only[Yi,YB]at j;obtain⟨rfl,rfl⟩:=j;exact⟨_,_,_,.mi t x none hh m k1 k2 q sz (λ l e=>F l e) M A rfl T B,h⟩
  simp_all
 ·rename_i t l c;split at h
  ·rename_i k1 n k2 m E j;obtain⟨sz,A,h⟩:=bN h;obtain⟨z,Q,h⟩:=bN h;rw[ir]at h;obtain⟨h0,h1,Z,h⟩:=h;exact⟨_,_,_,.tV t l c k1 k2 n m z sz E j h0 h1 Z A Q,h⟩
  simp_all
 ·rename_i t len parts;obtain⟨sz,A,h⟩:=bN h;obtain⟨z,Q,h⟩:=bN h;obtain⟨cs,V,h⟩:=bN h;rw[ir]at h;obtain⟨j,h⟩:=iu h;simp only[Yi,YB]at j;rw[kP]at h;exact⟨_,_,_,.pj t len parts z cs sz A Q j.1.1.1 j.1.1.2 j.1.2 j.2 V,h⟩
 ·rename_i s d x;split at h
  ·rename_i l R;obtain⟨j,E,h⟩:=iu h;exact⟨_,_,_,.cv s d x l R j E,h⟩
  ·rename_i F;obtain⟨q,M,h⟩:=bN h;obtain⟨j,l,E,h⟩:=iu h;exact⟨_,_,_,.toStr s d x l q (λ l e=>F l e) M E j,h⟩
 ·rename_i t;obtain⟨j,h⟩:=iu h;exact⟨_,_,_,.mkMap t j,h⟩
 ·rename_i t x;split at h
  ·rename_i k n R;obtain⟨j,h⟩:=iu h;exact⟨_,_,_,.mn t x k n j R,h⟩
  simp_all
 ·rename_i t m k x;split at h
  ·rename_i o B;split at h
   ·rename_i p es ho;obtain⟨kt,y,h⟩:=bN h;obtain⟨j,h⟩:=h;rcases h with h|⟨r,v',J,C,u,h⟩
    ·obtain⟨r,C,u,h⟩:=IV h;rw[vL]at h;exact⟨_,_,_,.iQ _ t kt m k x (.inl rfl) o p es r B ho y j C u _ (.refl _),h⟩
    ·exact⟨_,_,_,.iQ _ t kt m k x (.inl rfl) o p es r B ho y j C u v' J,h⟩
   simp_all
  simp_all
 ·rename_i t m k x;split at h
  ·rename_i o B;split at h
   ·rename_i p es ho;obtain⟨kt,y,h⟩:=bN h;obtain⟨j,h⟩:=h;rcases h with h|⟨r,v',J,C,u,h⟩
    ·obtain⟨r,C,u,h⟩:=IV h;rw[vL]at h;exact⟨_,_,_,.iQ _ t kt m k x (.inr rfl) o p es r B ho y j C u _ (.refl _),h⟩
    ·exact⟨_,_,_,.iQ _ t kt m k x (.inr rfl) o p es r B ho y j C u v' J,h⟩
   simp_all
  simp_all
 ·rename_i t m k ok;split at h
  ·rename_i o B;split at h
   ·rename_i p es ho;obtain⟨kt,y,h⟩:=bN h;obtain⟨j,h⟩:=h;rcases h with h|⟨r,v,C,O,h⟩
    ·obtain⟨r,C,h⟩:=IV h;cases r with
     |none=>
      simp only[IN]at h;obtain⟨vt,H,h⟩:=bN h;obtain⟨v,O,h⟩:=bN h;rw[lY]at h;refine⟨_,_,_,.look t kt m k ok o p es _ v B ho y j C (.inr ⟨rfl,vt,v,H,O,.refl _⟩),?_⟩;grind
     |some i=>
      simp only[IN]at h;obtain⟨e,T,h⟩:=bN h;rw[lY]at h;refine⟨_,_,_,.look t kt m k ok o p es _ e.2 B ho y j C (.inl ⟨i,e,rfl,T,rfl⟩),?_⟩;grind
    ·refine⟨_,_,_,.look t kt m k ok o p es r v B ho y j C O,?_⟩;grind
   simp_all
  ·rename_i B;obtain⟨kt,y,h⟩:=bN h;obtain⟨j,h⟩:=h;obtain⟨vt,H,h⟩:=bN h;obtain⟨v,O,h⟩:=bN h;rw[lY]at h;refine⟨_,_,_,.oN t kt vt m k ok v B y j H O,?_⟩;grind
  simp_all
 ·rename_i args ts;split at h
  ·rename_i s x t tx ha Y;rw[pZ ha,pZ Y];unfold MY at h;split at h
   ·rename_i F;obtain⟨q,M,h⟩:=bN h;obtain⟨sz,A,h⟩:=bN h;obtain⟨j,E,u,h⟩:=iu h;rw[kP]at h;exact⟨_,_,_,.sf t tx s x q sz F M A j E u,h⟩
   ·rename_i o z F;split at h
    ·rename_i p rs ho;obtain⟨q,M,h⟩:=bN h;obtain⟨sz,A,h⟩:=bN h;obtain⟨j,E,X,u,h⟩:=iu h;simp only[Yi,YB]at j;rw[kP]at h;exact⟨_,_,_,.se t tx s x q sz o z p rs F j.2 ho M A j.1 E X u,h⟩
    simp_all
   simp_all
  simp_all
 simp_all
end
section
variable {G:eo}{K:AV→List (Nat×Option AO)→bL→Prop}{P:Program}{id:Nat}{ol:Nat→Option AO}
def kQ(P:Program)(t:TypeId):Option TypeId:=
 match P.underlying t with
 |some (.slice e)=>some e
 |_=>none
def iq(P:Program)(t:TypeId):Option Nat:=(dS P t).map (·.2)
structure jE(P:Program)(G:eo)(f:Nat)(kf:List AV)(ol:Nat→Option AO)(id:Nat)(K:AV→List (Nat×Option AO)→bL→Prop):Prop where
 h:(∃(V:bL) (cQ:List (Nat×AO)) (bY:List AV) (rv:AV) (cr:List (Nat×AO)),FC P G f cQ bY rv cr∧sI V id ol kf cQ bY∧
  iK (cY (bk V id) rv) λ v=>K v (hZ V id cr) V)∨
  (∃(V:bL) (cQ:List (Nat×AO)) (bY:List AV) (rv:AV),FC P G f cQ bY rv cQ∧sI V id ol kf cQ bY∧cQ.map (λ e=>some (dq (bk V id) e.2))=V.map ol∧
  iK (cY (bk V id) rv) λ v=>K v [] V)
theorem Tk{f:Nat}{kf:List AV}
 (V:bL) {cQ:List (Nat×AO)} {bY:List AV} {rv:AV} {cr:List (Nat×AO)} (o:FC P G f cQ bY rv cr)
 (h1:(decide V.Nodup&&fi V.length bY&&cQ.all λ e=>dt V.length e.2)=true) (p:cQ.map (·.1)=List.range V.length)
 (j:dP (V.map ol) (cQ.map λ e=>some (dq (bk V id) e.2))) (q:eZ kf (fT (bk V id) bY)) (i:iK (cY (bk V id) rv) λ v=>K v (hZ V id cr) V):
 jE P G f kf ol id K:=⟨.inl ⟨V,cQ,bY,rv,cr,o,⟨h1,p,j,q⟩,i⟩⟩
theorem vW{f:Nat}{kf:List AV}
 (V:bL) {cQ:List (Nat×AO)} {bY:List AV} {rv:AV} {cr:List (Nat×AO)} (o:FC P G f cQ bY rv cr)
 (h1:(decide V.Nodup&&fi V.length bY&&cQ.all λ e=>dt V.length e.2)=true) (p:cQ.map (·.1)=List.range V.length)
 (j:cQ.map (λ e=>some (dq (bk V id) e.2))=V.map ol) (q:fT (bk V id) bY=kf) (i:iK (cY (bk V id) rv) λ v=>K v (hZ V id cr) V):
 jE P G f kf ol id K:=⟨.inl ⟨V,cQ,bY,rv,cr,o,⟨h1,p,.of_eq j,.of_eq q⟩,i⟩⟩
theorem Mq{f:Nat}{kf:List AV}
 (V:bL) {cQ:List (Nat×AO)} {bY:List AV} {rv:AV} (o:FC P G f cQ bY rv cQ)
 (h1:(decide V.Nodup&&fi V.length bY&&cQ.all λ e=>dt V.length e.2)=true) (p:cQ.map (·.1)=List.range V.length)
 (i:cQ.map (λ e=>some (dq (bk V id) e.2))=V.map ol) (q:fT (bk V id) bY=kf) (j:iK (cY (bk V id) rv) λ v=>K v [] V):
 jE P G f kf ol id K:=⟨.inr ⟨V,cQ,bY,rv,o,⟨h1,p,.of_eq i,.of_eq q⟩,i,j⟩⟩
def xE(K:Nat→Prop)(n:Int):Nat→Nat→Prop
 |0,_=>True
 |k+1,i=>uF (n==Int.ofNat i) (K i) (fN (i+1) λ j=>xE K n k j)
theorem X3{K:Nat→Prop}{n:Int}:∀(k i:Nat),xE K n k i→(i:Int)≤n→n<(i+k:Nat)→K n.toNat:=by
 intro k;induction k with
 |zero=>omega
 |succ k ih=>
  intro i h h1 h2;simp only[xE]at h;rcases gD h with ⟨o,j⟩|⟨o,j⟩
  ·simp_all
  ·rw[lW]at j;grind
theorem JJ{K:Nat→Prop}{n:Int}{k:Nat}(h0:0≤n)(h1:n<(k:Int))(h:K n.toNat∨xE K n k 0):K n.toNat:=by
 rcases h with h|h
 ·exact h
 ·exact X3 k 0 h (by omega) (by omega)
def Qk(A:Prop):Prop:=A
structure Ql(P:Program)(t:TypeId)(o i c:Nat)(p:Bool)(rs:List (List AV))(id:Nat)(K:AV→List (Nat×Option AO)→bL→Prop):Prop where
 h:∃z row n,rs[i]? =some row∧iq P t=some n∧1=n∧c+n≤row.length∧K .undef [(o,some (.rows (p&&[AV.bf id z].all iy) (rs.set i (setAt row c [.bf id z])))),(id,some (.rows true []))] []
theorem iP{t:TypeId}{o i c:Nat}{p:Bool}{rs:List (List AV)}(z:Nat)(row:List AV)(n:Nat)(h1:rs[i]? =some row)(q:iq P t=some n)
 (j:(decide (1=n)&&decide (c+n≤row.length))=true)
 (h:fU (p&&[AV.bf id z].all iy) (rs.set i (setAt row c [.bf id z])) λ y=>K .undef [(o,some y),(id,some (.rows true []))] []):Ql P t o i c p rs id K:=by
 rw[kP]at h;simp only[Yi,YB]at j;exact⟨z,row,n,h1,q,j.1,j.2,h⟩
def B2(P:Program)(ev:Operand→AV)(t:TypeId)(x:Operand)(o i c:Nat)(p:Bool)(rs:List (List AV))(K:AV→List (Nat×Option AO)→bL→Prop):Prop:=
 opt (rs[i]?) λ row=>opt (lv (ev x)) λ cs=>opt (iq P t) λ n=>
  kS (decide (cs.length=n)&&decide (c+n≤row.length)) (fU (p&&cs.all iy) (rs.set i (setAt row c cs)) λ y=>K .undef [(o,some y)] []) False
def DL(P:Program)(G:eo)(ev:Operand→AV)(ol:Nat→Option AO)(j:bL)(id:Nat)(ty:TypeId)(op:Op)(K:AV→List (Nat×Option AO)→bL→Prop):Prop:=
 match op with
 |.assign (.const (.slice none 0 0))=>opt (eN P ty) λ z=>K (.bf id z) [(id,some (.rows true []))] []
 |.pick c a b=>match ev c with
  |.bool t=>uF t (iK (ev a) λ v=>K v [] []) (iK (ev b) λ v=>K v [] [])
  |_=>False
 |.alloc t=>(opt (iM P t) λ cs=>fL cs λ cs=>K (.ptr id 0 0) [(id,some (.rows false [cs]))] [])∨LY P t id K
 |.box t x=>(opt (lv (ev x)) λ cs=>fL cs λ cs=>K (.ptr id 0 0) [(id,some (.rows false [cs]))] [])∨DH (ev x) t id K
 |.load t a=>match ev a with
  |.ptr o i c=>opt (jc ol o) λ rs=>opt (rs[i]?) λ row=>opt (ot P t row c) λ v=>iK v λ v=>K v [] [o]
  |.rp row c=>opt (ot P t row c) λ v=>iK v λ v=>K v [] []
  |_=>False
 |.store t a x=>match ev a with
  |.ptr o i c=>match ol o with
   |some (.rows p rs)=>match ev x with
    |.bf q _=>B2 P ev t x o i c p rs K∨Qk (match ol q with
     |some (.rows true xs)=>opt (rs[i]?) λ row=>opt (iq P t) λ n=>
      kS (decide (1=n)&&decide (c+n≤row.length)&&decide (o≠q)) (fU (p&&[AV.sl xs].all iy) (rs.set i (setAt row c [.sl xs])) λ y=>K .undef [(o,some y),(q,some (.dD xs))] []) False
     |_=>False)
    |.dK=>B2 P ev t x o i c p rs K∨Ql P t o i c p rs id K
    |_=>B2 P ev t x o i c p rs K
   |_=>False
  |_=>False
 |.indexAddr t x ix=>match ev ix with
  |.int _ n=>match ev x with
   |.sl xs=>0≤n∧opt (kQ P t) λ e=>opt (iq P e) λ sz=>opt (xs[n.toNat]?) λ row=>kS (decide (sz=row.length)) (K (.rp row 0) [] []) False
   |.bf o _=>0≤n∧opt (kQ P t) λ e=>opt (iq P e) λ sz=>opt (jc ol o) λ rs=>opt (rs[n.toNat]?) λ row=>kS (decide (sz=row.length)) (K (.ptr o n.toNat 0) [] [o]) False
   |.fp o off len _=>0≤n∧n.toNat<len∧opt (kQ P t) λ e=>opt (iq P e) λ sz=>opt (jc ol o) λ rs=>opt (rs[off+n.toNat]?) λ row=>
    kS (decide (sz=row.length)) (K (.ptr o (off+n.toNat) 0) [] [o]) False
   |.ptr o r c=>match P.underlying t with
    |some (.array len e)=>0≤n∧n<len∧opt (iq P e) λ sz=>K (.ptr o r (c+n.toNat*sz)) [] []∨xE (λ i=>K (.ptr o r (c+i*sz)) [] []) n len 0
    |_=>False
   |.rp row c=>match P.underlying t with
    |some (.array len e)=>0≤n∧n<len∧opt (iq P e) λ sz=>K (.rp row (c+n.toNat*sz)) [] []∨xE (λ i=>K (.rp row (c+i*sz)) [] []) n len 0
    |_=>False
   |_=>False
  |_=>False
 |.index t x ix=>match ev ix with
  |.int _ n=>match ev x with
   |.str l=>match P.underlying t with
    |some .string=>0≤n∧opt (l[n.toNat]?) λ c=>K (.int .u8 c.toNat) [] []
    |_=>False
   |.agg cs=>match P.underlying t with
    |some (.array len e)=>0≤n∧n<len∧opt (iq P e) λ sz=>(opt (ot P e cs (n.toNat*sz)) λ v=>iK v λ v=>K v [] [])∨xE (λ i=>opt (ot P e cs (i*sz)) λ v=>iK v λ v=>K v [] []) n len 0
    |_=>False
   |_=>False
  |_=>False
 |.binOp .quo _ x y _=>match ev x,ev y with
  |.int k a,.int k' b=>match decEq k k' with|.isTrue _=>b≠0∧K (.int k (k.wrap (a.tdiv b))) [] []|.isFalse _=>False
  |_,_=>False
 |.binOp .rem _ x y _=>match ev x,ev y with
  |.int k a,.int k' b=>match decEq k k' with|.isTrue _=>b≠0∧K (.int k (a.tmod b)) [] []|.isFalse _=>False
  |_,_=>False
 |.binOp .shl _ x y _=>match ev x,ev y with
  |.int k a,.int _ b=>0≤b∧K (.int k (k.wrap (a*2^(min b.toNat k.bits)))) [] []
  |_,_=>False
 |.binOp .shr _ x y _=>match ev x,ev y with
  |.int k a,.int _ b=>0≤b∧K (.int k (a.fdiv (2^(min b.toNat k.bits)))) [] []
  |_,_=>False
 |.binOp .eql t x (.const (.slice none 0 0)) _=>opt (kQ P t) λ _=>match ev x with
  |.sl xs=>K (.eR (xs=[])) [] []
  |.bf o _=>match ol o with
   |some (.rows true rs)=>K (.eR (rs=[])) [] [o]
   |_=>False
  |_=>False
 |.binOp op t x y _=>match ev x,ev y with
  |.agg cs,.agg ds=>match op with
   |.eql=>((lK P 20 t&&!P.eqGuardType P.depth t&&decide (cs.length=P.cellsOf t)&&decide (ds.length=P.cellsOf t))=true∧∃fs,P.underlying t=some (.struct fs))∧
    opt (lJ P 20 t cs ds 0) λ r=>K (.bool r) [] []
   |.neq=>((lK P 20 t&&!P.eqGuardType P.depth t&&decide (cs.length=P.cellsOf t)&&decide (ds.length=P.cellsOf t))=true∧∃fs,P.underlying t=some (.struct fs))∧
    opt (lJ P 20 t cs ds 0) λ r=>K (.bool !r) [] []
   |_=>False
  |.str a,.str b=>match op with
   |.add=>a.length+b.length≤9223372036854775807∧K (.str (a++b)) [] []
   |op=>opt (bin P op t (.str a) (.str b)) λ v=>K v [] []
  |x,y=>opt (bin P op t x y) λ v=>iK v λ v=>K v [] []
 |.call {callee:=.builtin .len,args,argTypes}=>opt (argTypes[0]?) λ t=>opt (args[0]?) λ x=>match ev x with
  |.bf o _=>opt (kQ P t) λ _=>opt (jc ol o) λ rs=>K (.int .i64 rs.length) [] [o]
  |.bm o=>match ol o with
   |some (.cw _ fs _)=>kS (dL P t).isSome (K (.int .i64 fs.length) [] [o]) False
   |_=>False
  |v=>opt (oQ P t v) λ v=>K v [] []
 |.call {callee:=.value fn,args,..}=>match ev fn with
  |.fn f cap=>(opt (kX (gi j ol 8) (args.toList.map ev++cap)) λ bY=>fL bY λ bY=>
   ∃rv cr,FC P G f [] bY rv cr∧
    ((
     flat rv=true∧cr=[]∧iK rv λ rv=>K rv [] j)∨∃V,(kX (gi V ol 8) (args.toList.map ev++cap)=some bY)∧
     opt (frozen V ol 8) λ U=>iK (cY (id+ ·) rv) λ rv=>K rv (U++qd id cr) V))∨
   jE P G f (args.toList.map ev++cap) ol id K
  |_=>False
 |.build t ps=>(opt (fb P ev (.build t ps)) λ v=>iK v λ v=>K v [] [])∨LZ P ev t ps id K
 |.slice t x lo hi mx=>jl P ev ol id (.slice t x lo hi mx) K
 |.convert s d x=>kS (sd P s d) (ky P ev ol id (.convert s d x) K) (kS (sY P s d||sY P d s) (jl P ev ol id (.convert s d x) K) (opt (fb P ev (.convert s d x)) λ v=>iK v λ v=>K v [] []))
 |.makeSlice t l c=>jl P ev ol id (.makeSlice t l c) K
 |.buildSlice t l ps=>jl P ev ol id (.buildSlice t l ps) K∨KR (ky P ev ol id (.buildSlice t l ps) K)
 |.makeMap t none=>jl P ev ol id (.makeMap t none) K∨kS (dL P t).isSome (FMk id K) False
 |.makeMap t r=>jl P ev ol id (.makeMap t r) K
 |.mapUpdate t m k x=>tP (GY ev ol m) (ky P ev ol id (.mapUpdate t m k x) K) (tP (w6 ev ol m) (pI P ev ol id (.mapUpdate t m k x) K) (jl P ev ol id (.mapUpdate t m k x) K))
 |.insert t m k x=>tP (GY ev ol m) (ky P ev ol id (.insert t m k x) K) (tP (w6 ev ol m) (pI P ev ol id (.insert t m k x) K) (jl P ev ol id (.insert t m k x) K))
 |.lookup t m k ok=>tP (GY ev ol m) (ky P ev ol id (.lookup t m k ok) K) (tP (w6 ev ol m) (pI P ev ol id (.lookup t m k ok) K) (jl P ev ol id (.lookup t m k ok) K))
 |.call {callee:=.builtin .append,args,argTypes}=>jl P ev ol id (.call {callee:=.builtin .append,args,argTypes}) K
 |.call {callee:=.builtin .delete,args,argTypes}=>ky P ev ol id (.call {callee:=.builtin .delete,args,argTypes}) K
 |.call {callee:=.builtin .clear,args,argTypes}=>ky P ev ol id (.call {callee:=.builtin .clear,args,argTypes}) K
 |.call {callee:=.builtin .copy,args,argTypes}=>ky P ev ol id (.call {callee:=.builtin .copy,args,argTypes}) K
 |op=>opt (fb P ev op) λ v=>iK v λ v=>K v [] []
theorem zD{t e:TypeId}(h:kQ P t=some e):P.underlying t=some (.slice e):=by
 unfold kQ at h;grind
theorem uQ{t:TypeId}{n:Nat}(h:iq P t=some n):∃b,dS P t=some (b,n):=by
 unfold iq at h;simp_all
theorem S5{ev:Operand→AV}{ids:bL}{ty:TypeId}{op:Op}
 (h:DL P G ev ol ids id ty op K):∃v U RO,iz P G ev ol id op v U RO∧K v U RO:=by
 have pv:∀{op:Op},(opt (fb P ev op) λ v=>iK v λ v=>K v [] [])→∃v U RO,iz P G ev ol id op v U RO∧K v U RO:=by
  intro op h;obtain⟨v,X,h⟩:=bN h;rw[lY]at h;exact⟨v,[],[],.of<|.pure op v X,h⟩
 have bv:∀{op:Op},jl P ev ol id op K→∃v U RO,iz P G ev ol id op v U RO∧K v U RO:=by
  intro op h;obtain⟨v,U,RO,h1,J⟩:=UJ h;exact⟨v,U,RO,.of<|.more op v U RO h1,J⟩
 have fv:∀{b b':Bool} {op:Op},tP b (ky P ev ol id op K) (tP b' (pI P ev ol id op K) (jl P ev ol id op K))→∃v U RO,iz P G ev ol id op v U RO∧K v U RO:=by
  intro b b' op h;rcases vv h with h|h
  ·obtain⟨v,U,RO,h1,J⟩:=zl h;exact⟨v,U,RO,.of<|.files op v U RO h1,J⟩
  ·rcases vv h with h|h
   ·obtain⟨v,U,RO,h1,J⟩:=UK h;exact⟨v,U,RO,.of<|.jR op v U RO h1,J⟩
   grind
 unfold DL at h;split at h
 ·obtain⟨z,_,h⟩:=bN h;exact⟨_,_,_,.of<|.nil z,h⟩
 ·rename_i c a b;split at h
  ·rename_i t A;rcases gD h with ⟨Q,H⟩|⟨Q,H⟩
   ·subst Q;rw[lY]at H;exact⟨_,_,_,.of<|.pick c a b true A,H⟩
   ·subst Q;rw[lY]at H;exact⟨_,_,_,.of<|.pick c a b false A,H⟩
  simp_all
 ·rename_i t;rcases h with h|⟨k,z,cs,hz,C,h⟩
  ·obtain⟨cs,hz,h⟩:=bN h;rw[ir]at h;exact⟨_,_,_,.of<|.alloc t cs hz,h⟩
  ·exact⟨_,_,_,.of<|.files _ _ _ _ (.mE t cs k z hz C),h⟩
 ·rename_i t x;rcases h with h|⟨k,z,cs,hz,C,h⟩
  ·obtain⟨cs,hz,h⟩:=bN h;rw[ir]at h;exact⟨_,_,_,.of<|.box t x cs hz,h⟩
  ·exact⟨_,_,_,.of<|.files _ _ _ _ (.uG t x cs k z hz C),h⟩
 ·rename_i t a;split at h
  ·rename_i o i c j;obtain⟨rs,R,h⟩:=bN h;obtain⟨row,u,h⟩:=bN h;obtain⟨v,X,h⟩:=bN h;rw[lY]at h;obtain⟨y,E,O⟩:=xU R;rcases O with rfl|rfl|rfl
   ·exact⟨_,_,_,.of<|.load t a o i c _ rs row v j E u X,h⟩
   ·exact⟨_,_,_,.of<|.load t a o i c _ rs row v j E u X,h⟩
   ·exact⟨_,_,_,.of<|.oP t a o i c rs row v j E u X,h⟩
  ·rename_i row c j;obtain⟨v,X,h⟩:=bN h;rw[lY]at h;exact⟨_,_,_,.of<|.oO t a row c v j X,h⟩
  simp_all
 ·rename_i t a x;split at h
  ·rename_i o i c j;split at h
   ·rename_i p rs ho;have hX:B2 P ev t x o i c p rs K→∃v U RO,iz P G ev ol id (.store t a x) v U RO∧K v U RO:=by
     intro h;unfold B2 at h;obtain⟨row,u,h⟩:=bN h;obtain⟨cs,sU,h⟩:=bN h;obtain⟨n,hn,h⟩:=bN h;obtain⟨b,C⟩:=uQ hn;rcases gD h with ⟨A,H⟩|⟨_,H⟩
     ·simp only[Yi,YB]at A;rw[kP]at H;exact⟨_,_,_,.of<|.store t a x o i c p rs row cs b n j ho u sU C A.1 A.2,H⟩
     ·grind
    split at h
    ·rename_i q z qy;rcases h with h|h
     ·exact hX h
     ·unfold Qk at h;split at h
      ·rename_i xs hq;obtain⟨row,u,h⟩:=bN h;obtain⟨n,hn,h⟩:=bN h;obtain⟨b,C⟩:=uQ hn;rcases gD h with ⟨A,H⟩|⟨_,H⟩
       ·simp only[Yi,YB]at A;rw[kP]at H;obtain⟨⟨uv,pU⟩,By⟩:=A;subst uv;exact⟨_,_,_,.of<|.mg t a x o i c p rs row b q z xs j ho u qy hq By C pU,H⟩
       simp_all
      simp_all
    ·rename_i qy;rcases h with h|⟨z,row,n,h1,J,h3,h4,h⟩
     ·exact hX h
     ·obtain⟨b,C⟩:=uQ J;subst h3;exact⟨_,_,_,.of<|.mh t a x o i c p rs row b z j ho h1 qy C h4,h⟩
    grind
   simp_all
  simp_all
 ·rename_i t x ix;split at h
  ·rename_i k n M;split at h
   ·rename_i xs j;obtain⟨h0,h⟩:=h;obtain⟨e,Y,h⟩:=bN h;obtain⟨sz,B,h⟩:=bN h;obtain⟨row,u,h⟩:=bN h;obtain⟨b,C⟩:=uQ B;rcases gD h with ⟨A,H⟩|⟨_,H⟩
    ·have A:=YM A;subst A;exact⟨_,_,_,.of<|.oT t e x ix xs k n row b j M h0 u (zD Y) C,H⟩
    simp_all
   ·rename_i o z j;obtain⟨h0,h⟩:=h;obtain⟨e,Y,h⟩:=bN h;obtain⟨sz,B,h⟩:=bN h;obtain⟨rs,R,h⟩:=bN h;obtain⟨row,u,h⟩:=bN h;obtain⟨b,C⟩:=uQ B;obtain⟨y,E,O⟩:=xU R;rcases gD h with ⟨A,H⟩|⟨_,H⟩
    ·have A:=YM A;subst A;exact⟨_,_,_,.of<|.mr t e x ix o z k n y rs row b j M h0 E O u (zD Y) C,H⟩
    simp_all
   ·rename_i o off len room j;obtain⟨h0,h1,h⟩:=h;obtain⟨e,Y,h⟩:=bN h;obtain⟨sz,B,h⟩:=bN h;obtain⟨rs,R,h⟩:=bN h;obtain⟨row,u,h⟩:=bN h;obtain⟨b,C⟩:=uQ B;obtain⟨y,E,O⟩:=xU R;rcases gD h with ⟨A,H⟩|⟨_,H⟩
    ·have A:=YM A;subst A;exact⟨_,_,_,.of<|.mu t e x ix o off len room k n y rs row b j M h0 h1 E O u (zD Y) C,H⟩
    simp_all
   ·rename_i o r c j;split at h
    ·rename_i len e Q;obtain⟨h0,h1,h⟩:=h;obtain⟨sz,B,h⟩:=bN h;obtain⟨b,C⟩:=uQ B;exact⟨_,_,_,.of<|.mv t e x ix o r c len sz k n b j M h0 h1 Q C,JJ (K:=λ i=>K (.ptr o r (c+i*sz)) [] []) h0 h1 h⟩
    simp_all
   ·rename_i row c j;split at h
    ·rename_i len e Q;obtain⟨h0,h1,h⟩:=h;obtain⟨sz,B,h⟩:=bN h;obtain⟨b,C⟩:=uQ B;exact⟨_,_,_,.of<|.kc t e x ix row c len sz k n b j M h0 h1 Q C,JJ (K:=λ i=>K (.rp row (c+i*sz)) [] []) h0 h1 h⟩
    simp_all
   simp_all
  simp_all
 ·rename_i t x ix;split at h
  ·rename_i k n M;split at h
   ·rename_i l j;split at h
    ·rename_i Q;obtain⟨h0,h⟩:=h;obtain⟨c,A,h⟩:=bN h;exact⟨_,_,_,.of<|.oA t x ix l k n c j M h0 A Q,h⟩
    simp_all
   ·rename_i cs j;split at h
    ·rename_i len e Q;obtain⟨h0,h1,h⟩:=h;obtain⟨sz,B,h⟩:=bN h;replace h:=JJ (K:=λ i=>opt (ot P e cs (i*sz)) λ v=>iK v λ v=>K v [] []) h0 h1 h;obtain⟨v,X,h⟩:=bN h
     rw[lY]at h;obtain⟨b,C⟩:=uQ B;exact⟨_,_,_,.of<|.pn t e x ix cs len sz k n b v j M h0 h1 Q C X,h⟩
    simp_all
   simp_all
  simp_all
 ·rename_i t x y T;split at h
  ·rename_i k a k' b F E;split at h
   ·rename_i e _;subst e;exact⟨_,_,_,.of<|.quo t T x y k a b F E h.1,h.2⟩
   simp_all
  simp_all
 ·rename_i t x y T;split at h
  ·rename_i k a k' b F E;split at h
   ·rename_i e _;subst e;exact⟨_,_,_,.of<|.rem t T x y k a b F E h.1,h.2⟩
   simp_all
  simp_all
 ·rename_i t x y T;split at h
  ·rename_i k a k' b F E;exact⟨_,_,_,.of<|.shl t T x y k k' a b F E h.1,h.2⟩
  simp_all
 ·rename_i t x y T;split at h
  ·rename_i k a k' b F E;exact⟨_,_,_,.of<|.shr t T x y k k' a b F E h.1,h.2⟩
  simp_all
 ·rename_i t x T;obtain⟨e,Y,h⟩:=bN h;split at h
  ·rename_i xs F;exact⟨_,_,_,.of<|.tT t T e x xs F (zD Y),h⟩
  ·rename_i o z F;split at h
   ·rename_i rs ho;exact⟨_,_,_,.of<|.files _ _ _ _ (.oK t T e x o z true rs F ho (zD Y)),h⟩
   simp_all
  simp_all
 ·rename_i op t x y T _ _ _ _ _;split at h
  ·rename_i cs ds F E;split at h
   ·obtain⟨⟨Z,iE⟩,h⟩:=h;obtain⟨r,hr,h⟩:=bN h;simp only[Yi,YB,VI,YV]at Z;exact⟨_,_,_,.of<|.pc t T x y cs ds r F E Z.1.1.1 Z.1.1.2 iE Z.1.2 Z.2 hr,h⟩
   ·obtain⟨⟨Z,iE⟩,h⟩:=h;obtain⟨r,hr,h⟩:=bN h;simp only[Yi,YB,VI,YV]at Z;exact⟨_,_,_,.of<|.oM t T x y cs ds r F E Z.1.1.1 Z.1.1.2 iE Z.1.2 Z.2 hr,h⟩
   simp_all
  ·rename_i a b F E;split at h
   ·exact⟨_,_,_,.of<|.cat t T x y a b F E h.1,h.2⟩
   ·refine pv ?_;obtain⟨v,X,h⟩:=bN h;refine fX v ?_ (by rw[lY];exact h)
    simp only[fb,F,E];exact X
  ·refine pv ?_;simp only[fb];exact h
 ·rename_i args ts;obtain⟨t,Q,h⟩:=bN h;obtain⟨x,F,h⟩:=bN h;split at h
  ·rename_i o z j;obtain⟨e,Y,h⟩:=bN h;obtain⟨rs,R,h⟩:=bN h;obtain⟨y,E,O⟩:=xU R;exact⟨_,_,_,.of<|.kF x ts args t e o z y rs F Q (zD Y) j E O,h⟩
  ·rename_i o j;split at h
   ·rename_i z fs hh ho;obtain⟨A,h⟩:=iu h;exact⟨_,_,_,.of<|.files _ _ _ _ (.len x ts args t o z fs hh F Q A j ho),h⟩
   simp_all
  ·obtain⟨v,X,h⟩:=bN h;exact⟨v,[],[],.of<|.pure _ v (by simp only[fb,Q,F];exact X),h⟩
 ·rename_i fn args ts;split at h
  ·rename_i f cap j;rcases h with h|⟨⟨V,cQ,bY,rv,cr,hf,hh,h⟩|⟨V,cQ,bY,rv,hf,hh,Y,h⟩⟩
   rotate_left
   ·rw[lY]at h;exact⟨_,_,_,.of<|.lX fn args ts f cap V cQ bY rv cr j hh hf,h⟩
   ·rw[lY]at h;refine⟨_,_,_,.same (.lX fn args ts f cap V cQ bY rv cQ j hh hf) (ZpG hh.keys Y) (λ o ho=>?_),h⟩;rcases ho with ho|ho
    ·exact ho
    ·obtain⟨e,rO,rfl⟩:=W0.1 ho;unfold hZ at rO;rcases YA.1 rO with q|q
     ·obtain⟨x,F,rfl⟩:=W0.1 q;have hm:x.1∈List.range V.length:=by rw[←hh.keys];exact WY F
      have iU:=List.mem_range.1 hm;show bk V id x.1∈V;simp[bk,iU]
     grind
   obtain⟨bY,ha,h⟩:=bN h;rw[ir]at h;obtain⟨rv,cr,hf,h⟩:=h;rcases h with ⟨oc,rfl,h⟩|⟨V,hV,h⟩
   ·rw[lY]at h;exact⟨_,_,_,.of<|.call fn args ts f cap ids 8 bY rv j ha hf oc,h⟩
   ·obtain⟨U,hU,h⟩:=bN h;rw[lY]at h;exact⟨_,_,_,.of<|.nw fn args ts f cap V 8 bY rv cr U j hV hf hU,h⟩
  simp_all
 ·rcases h with h|⟨k,z,cs,hb,C,h⟩
  ·exact pv h
  ·exact⟨_,_,_,.of<|.files _ _ _ _ (.mD _ _ cs k z hb C),h⟩
 ·exact bv h
 ·rcases gD h with ⟨_,h⟩|⟨_,h⟩
  ·obtain⟨v,U,RO,h1,J⟩:=zl h;exact⟨v,U,RO,.of<|.files _ v U RO h1,J⟩
  ·rcases gD h with ⟨_,h⟩|⟨_,h⟩
   all_goals simp_all
 ·exact bv h
 ·rcases h with h|h
  ·exact bv h
  ·obtain⟨v,U,RO,h1,J⟩:=zl h;exact⟨v,U,RO,.of<|.files _ v U RO h1,J⟩
 ·rename_i t;rcases h with h|h
  ·exact bv h
  ·obtain⟨A,h⟩:=iu h;rcases h.h with ⟨z,h⟩|h
   ·exact⟨_,_,_,.of<|.files _ _ _ _ (.mk t z A),h⟩
   ·exact⟨_,_,_,.of<|.jR _ _ _ _ (.mk t A),h⟩
 ·exact bv h
 ·exact fv h
 ·exact fv h
 ·exact fv h
 ·exact bv h
 ·obtain⟨v,U,RO,h1,J⟩:=zl h;exact⟨v,U,RO,.of<|.files _ v U RO h1,J⟩
 ·obtain⟨v,U,RO,h1,J⟩:=zl h;exact⟨v,U,RO,.of<|.files _ v U RO h1,J⟩
 ·obtain⟨v,U,RO,h1,J⟩:=zl h;exact⟨v,U,RO,.of<|.files _ v U RO h1,J⟩
 grind
end
section
variable {P:Program}{g g':Tm}{m nx:Nat}{cr:Os}{r:Option Nat}{α:Type}
def pV(N:Sl):List Oper→Bool
 | []=>true
 |o::r=>(match o.dst with|some d=>(decide (N.lo≤d)&&decide (d<N.n))|none=>true)&&!zm o.op&&pV N r
abbrev Lg:=List (bL×bL)
def kE(log:Lg):Log:=λ k=>log.reverse.getD k ([],[])
def jJ(P:Program)(G:eo)(ops:Array Oper)(nb:Nat):List Oper→Nat→Tm→Os→Lg→(Tm→Os→Lg→Prop)→Prop
 | [],_,g,os,log,K=>K g os log
 |o::r,i,g,os,log,K=>
  let go:Tm→Prop:=λ g=>fN (nb+i*W) λ id=>DL P G (ig G (cO g)) (lk os) (os.map (·.1)) id o.type o.op λ v U RO=>xt os U λ os=>
   match o.dst with
   |some d=>jJ P G ops nb r (i+1) ((d,v)::g) os ((U.map (·.1),RO)::log) K
   |none=>jJ P G ops nb r (i+1) g os ((U.map (·.1),RO)::log) K
  let no:Tm→Prop:=λ g=>
   match o.dst with
   |some d=>jJ P G ops nb r (i+1) ((d,.cx [])::g) os (([],[])::log) K
   |none=>jJ P G ops nb r (i+1) g os (([],[])::log) K
  match o.guard with
  |none=>go g
  |some (j,want)=>match (ops[j]?).bind (·.dst)with
   |some d=>match cO g d with
    |.bool b=>uF b (match want with|true=>go ((d,.bool true)::g)|false=>no ((d,.bool true)::g))
     (match want with|true=>no ((d,.bool false)::g)|false=>go ((d,.bool false)::g))
    |.cx _=>no g
    |_=>False
   |none=>False
theorem Fo{d:Nat}{b:Bool}(h:cO g d=.bool b):cO ((d,.bool b)::g)=cO g:=by
 funext t;simp only[cO];simp_all
theorem UL{G:eo}{N:Sl}{ops:Array Oper}{nb:Nat}:∀(l:List Oper) (i:Nat) (g:Tm) (os:Os) (log:Lg) (K:Tm→Os→Lg→Prop),
 (∀(k:Nat) o,l[k]? =some o→ops[i+k]? =some o)→pV N l=true→log.length=i→jJ P G ops nb l i g os log K→
 ∃g' cr ext,K g' cr (ext++log)∧ext.length=l.length∧∀L:Log,(∀k,i≤k→k<i+l.length→L k=kE (ext++log) k)→
  fa P G N ops nb L (List.range' i l.length) (dn g os) (dn g' cr):=by
 intro l;induction l with
 |nil=>
  intro i g os log K _ _ _ h;exact⟨g,os,[],h,rfl,λ L _=>.nil _⟩
 |cons o r ih=>
  intro i g os log K Y u F h;have ho:ops[i]? =some o:=by simpa using Y 0 o rfl
  simp only[pV,Yi]at u;have hd:∀d,o.dst=some d→N.lo≤d∧d<N.n:=by
   intro d e;have:=u.1.1;rw[e]at this;simpa using this
  have J:∀(k:Nat) o',r[k]? =some o'→ops[i+1+k]? =some o':=by
   intro k o' hk;have:=Y (k+1) o' (by simp_all)
   rw[show i+1+k=i+(k+1) by omega];exact this
  have A:∀(x:bL×bL) (ext:Lg),kE (ext++x::log) i=x:=by
   intro x ext;unfold kE;rw[Wt];simp only[List.reverse_append,List.reverse_cons,Yo];rw[Yl (by grind)]
   simp[F]
  have V:∀q:Tm,cO q=cO g→gR ops (cO g) o=some true→
   (fN (nb+i*W) λ id=>DL P G (ig G (cO q)) (lk os) (os.map (·.1)) id o.type o.op λ v U RO=>xt os U λ os=>
    match o.dst with
    |some d=>jJ P G ops nb r (i+1) ((d,v)::q) os ((U.map (·.1),RO)::log) K
    |none=>jJ P G ops nb r (i+1) q os ((U.map (·.1),RO)::log) K)→
   ∃g' cr ext,K g' cr (ext++log)∧ext.length=(o::r).length∧∀L:Log,(∀k,i≤k→k<i+(o::r).length→L k=kE (ext++log) k)→
    fa P G N ops nb L (List.range' i (o::r).length) (dn g os) (dn g' cr):=by
   intro q B M Z;rw[lW]at Z;obtain⟨v,U,RO,hA,hK⟩:=S5 Z;rw[IA]at hK;rw[B]at hA;have E:jJ P G ops nb r (i+1) (match o.dst with|some d=>(d,v)::q|none=>q) (ia os U) ((U.map (·.1),RO)::log) K:=by
    cases R7:o.dst with
    |none=>simp_all
    |some d=>simp_all
   obtain⟨g',cr,ext,h1,Q,X⟩:=ih (i+1) _ _ _ K J u.2 (by grind) E
   refine⟨g',cr,ext++[(U.map (·.1),RO)],by simp_all,by simp[Q],λ L T=>?_⟩
   rw[Yh,List.range'_succ];have z:=T i (Yg _) (by simp)
   rw[show ext++[(U.map (·.1),RO)]++log=ext++(U.map (·.1),RO)::log by simp,A]at z
   refine .cons i _ _ _ _ (.run o v U RO ho M hA hd z) ?_;have:=X L (λ k R O=>by
    grind)
   have e:(dn g os).fq o.dst v U=dn (match o.dst with|some d=>(d,v)::q|none=>q) (ia os U):=by
    rw[No];unfold dn;congr 1;cases o.dst with
    |none=>simp_all
    |some d=>funext t;simp only[cO];rw[B]
   rw[e];exact this
  have no:∀q:Tm,cO q=cO g→gR ops (cO g) o=some false→
   (match o.dst with
    |some d=>jJ P G ops nb r (i+1) ((d,.cx [])::q) os (([],[])::log) K
    |none=>jJ P G ops nb r (i+1) q os (([],[])::log) K)→
   ∃g' cr ext,K g' cr (ext++log)∧ext.length=(o::r).length∧∀L:Log,(∀k,i≤k→k<i+(o::r).length→L k=kE (ext++log) k)→
    fa P G N ops nb L (List.range' i (o::r).length) (dn g os) (dn g' cr):=by
   intro q B M hK;have E:jJ P G ops nb r (i+1) (match o.dst with|some d=>(d,.cx [])::q|none=>q) os (([],[])::log) K:=by
    cases R7:o.dst with
    |none=>simp_all
    |some d=>simp_all
   obtain⟨g',cr,ext,h1,Q,X⟩:=ih (i+1) _ _ _ K J u.2 (by grind) E
   refine⟨g',cr,ext++[([],[])],by simp_all,by simp[Q],λ L T=>?_⟩
   rw[Yh,List.range'_succ];have z:=T i (Yg _) (by simp)
   rw[show ext++[(([]:bL),([]:bL))]++log=ext++([],[])::log by simp,A]at z
   refine .cons i _ _ _ _ (.skip o ho M hd z) ?_;have:=X L (λ k R O=>by
    grind)
   have e:(dn g os).fq o.dst (.cx []) []=dn (match o.dst with|some d=>(d,.cx [])::q|none=>q) os:=by
    rw[No];unfold dn;congr 1;cases o.dst with
    |none=>simp_all
    |some d=>funext t;simp only[cO];rw[B]
   rw[e];exact this
  simp only[jJ]at h;cases hg:o.guard with
  |none=>
   rw[hg]at h;exact V g rfl (by unfold gR;rw[hg]) h
  |some jw=>
   obtain⟨j,want⟩:=jw;rw[hg]at h;simp only at h;cases hb:(ops[j]?).bind (·.dst)with
   |none=>simp_all
   |some d=>
    rw[hb]at h;simp only at h;split at h
    ·rename_i b y;have p:gR ops (cO g) o=some (b==want):=by unfold gR;rw[hg];simp only[hb,y]
     rcases gD h with ⟨C,H⟩|⟨C,H⟩
     ·subst C;cases want with
      |true=>exact V _ (Fo y) p H
      |false=>exact no _ (Fo y) p H
     ·subst C;cases want with
      |true=>exact no _ (Fo y) p H
      |false=>exact V _ (Fo y) p H
    ·rename_i vs y;exact no g rfl (by unfold gR;simp_all) h
    simp_all
inductive tK where
 |code (c:Code)
 |bB (id:Nat)
 |stop (κ:Tm→Os→Nat→Prop)
def jZ(id:Nat):List tK→Option (List tK)
 | []=>none
 |.bB i::k=>if id=i then some k else jZ id k
 |_::k=>jZ id k
def ap:List (Nat×Nat)→Nat→Nat
 | [],o=>o
 |(k,x)::r,o=>if o=k then x else ap r o
def kx(m:Nat)(g:Tm)(os:Os)(σ:List (Nat×Nat))(gx:Tm)(dm:Os)(nx:Nat):Prop:=
 (gx.all (λ e=>fu nx e.2)&&dm.all (λ e=>decide (e.1<nx)&&dt nx e.2)&&decide ((dm.map λ e=>ap σ e.1).Nodup)&&decide (m≤nx)&&(List.range m).all (λ j=>ap σ j==j))=true∧
 eZ (gx.map λ e=>cO g e.1) (gx.map λ e=>cY (ap σ) e.2)∧
 dP (dm.map λ e=>lk os (ap σ e.1)) (dm.map λ e=>some (dq (ap σ) e.2))
structure sH(m:Nat)(g:Tm)(os:Os)(body:(Tm→Os→Nat→Prop)→Tm→Os→Nat→Prop):Prop where
 h:∃(α:Type) (gx:α→Tm) (dm:α→Os) (nx:Nat) (I:α→Prop) (μ:α→Nat) (x0:α) (σ0:List (Nat×Nat)),
  I x0∧kx m g os σ0 (gx x0) (dm x0) nx∧
  ∀x,I x→body (λ g' cr _=>∃x' σ,I x'∧μ x'<μ x∧kx m g' cr σ (gx x') (dm x') nx) (gx x) (dm x) nx
theorem xG{os:Os}{body:(Tm→Os→Nat→Prop)→Tm→Os→Nat→Prop}(gx:α→Tm)(dm:α→Os)(nx:Nat)(I:α→Prop)(μ:α→Nat)(x0:α)(σ0:List (Nat×Nat))(i:I x0)
 (p:(gx x0).map (λ e=>cY (ap σ0) e.2)=(gx x0).map (λ e=>cO g e.1)) (q:(dm x0).map (λ e=>some (dq (ap σ0) e.2))=(dm x0).map λ e=>lk os (ap σ0 e.1))
 (h1:((gx x0).all (λ e=>fu nx e.2)&&(dm x0).all (λ e=>decide (e.1<nx)&&dt nx e.2)&&decide (((dm x0).map λ e=>ap σ0 e.1).Nodup)&&decide (m≤nx)&&(List.range m).all (λ j=>ap σ0 j==j))=true)
 (o:∀x,I x→body (λ g' cr _=>∃x' σ,I x'∧μ x'<μ x∧kx m g' cr σ (gx x') (dm x') nx) (gx x) (dm x) nx):sH m g os body:=
 ⟨α,gx,dm,nx,I,μ,x0,σ0,i,⟨h1,.of_eq p,.of_eq q⟩,o⟩
theorem we{gx:α→Tm}{dm:α→Os}{I:α→Prop}{μ:α→Nat}{x:α}(x':α)(σ:List (Nat×Nat))(i:I x')(hμ:μ x'<μ x)
 (o:(gx x').map (λ e=>cY (ap σ) e.2)=(gx x').map (λ e=>cO g' e.1)) (p:(dm x').map (λ e=>some (dq (ap σ) e.2))=(dm x').map λ e=>lk cr (ap σ e.1))
 (h1:((gx x').all (λ e=>fu nx e.2)&&(dm x').all (λ e=>decide (e.1<nx)&&dt nx e.2)&&decide (((dm x').map λ e=>ap σ e.1).Nodup)&&decide (m≤nx)&&(List.range m).all (λ j=>ap σ j==j))=true):
 ∃x' σ,I x'∧μ x'<μ x∧kx m g' cr σ (gx x') (dm x') nx:=⟨x',σ,i,hμ,h1,.of_eq o,.of_eq p⟩
def IK:List tK→Bool
 | []=>true
 |.stop _::_=>false
 |_::k=>IK k
def IC(W:World)(v:Value)(i:aa):Prop:=
 ∃a cap,v=.slice a i.length cap∧∀(j:Nat) z,i[j]? =some z→∃ad:Addr,a=some ad∧ad.spot=none∧W.cell? ⟨ad.block,ad.off+j,none⟩=some (.int .i64 z)
def IB(P:Program)(f:Nat):Prop:=fe P f=true∧
 ∀(l:Nat) (j:Addr) (i:aa) (J:Nat→World→Prop) (W:World),i.length≤bI→(∀k W,J k W→∃v,W.cell? j=some v∧IC W v i)→
  (∀(k:Nat) (z:Int) (W:World),i.reverse[k]? =some z→J k W→YieldAt Fence.wide 0 P l #[.int .i64 ((i.length-1-k:Nat):Int),.int .i64 z] W λ e W'=>e=.returned (.bool true)∧J (k+1) W')→
  J 0 W→CallsIn Fence.wide 0 P f #[.func (.yield l) #[] #[],.pointer (some j)] W λ e W'=>(∃v,e=.returned v)∧J i.length W'
def vq(g:Tm)(p q:Nat)(i z:Int):Tm:=(q,.int .i64 z)::(p,.int .i64 i)::g
structure IE(P:Program)(N:Sl)(m:Nat)(g:Tm)(os:Os)(nx:Nat)(gv:AV)(ps:List Tmp)(X:Nat→Bool→(Tm→Os→Nat→Prop)→Tm→Os→Nat→Prop)(K:Tm→Os→Nat→Prop):Prop where
 h:∃(fB:Nat) (zs:aa) (p q lo:Nat) (α:Type) (gx:Tm) (dm:α→Os) (tS:Nat) (I:Nat→α→Prop) (x0:α) (σ0:List (Nat×Nat)),
  IB P fB∧gv=.fn fB [.rp [.sl (zs.map λ z=>[.int .i64 z])] 0]∧ps=[p,q]∧
  (decide (lo≤p)&&decide (p<N.n)&&decide (lo≤q)&&decide (q<N.n)&&decide (p≠q)&&gx.all (λ e=>decide (e.1<lo)))=true∧
  I 0 x0∧kx m g os σ0 gx (dm x0) tS∧
  (∀(k:Nat) (z:Int) x,zs.reverse[k]? =some z→I k x→X lo false (λ g1 wY wZ=>X lo true (λ g2 os2 _=>∃x' σ,I (k+1) x'∧kx m g2 os2 σ gx (dm x') tS) g1 wY wZ)
   (vq gx p q ((zs.length-1-k:Nat):Int) z) (dm x) tS)∧
  (∀x,I zs.length x→K gx (dm x) tS)
theorem Nc{N:Sl}{os:Os}{gv:AV}{ps:List Tmp}{X:Nat→Bool→(Tm→Os→Nat→Prop)→Tm→Os→Nat→Prop}{K:Tm→Os→Nat→Prop}
 (fB:Nat) (o:aa) (p q lo:Nat) (gx:Tm) (dm:α→Os) (i:Nat) (I:Nat→α→Prop) (x0:α) (σ0:List (Nat×Nat))
 (M:IB P fB) (u:gv=.fn fB [.rp [.sl (o.map λ z=>[.int .i64 z])] 0]) (B:ps=[p,q])
 (hd:(decide (lo≤p)&&decide (p<N.n)&&decide (lo≤q)&&decide (q<N.n)&&decide (p≠q)&&gx.all (λ e=>decide (e.1<lo)))=true) (C:I 0 x0)
 (O:eZ (gx.map λ e=>cO g e.1) (gx.map λ e=>cY (ap σ0) e.2)) (H:dP ((dm x0).map λ e=>lk os (ap σ0 e.1)) ((dm x0).map λ e=>some (dq (ap σ0) e.2)))
 (h1:(gx.all (λ e=>fu i e.2)&&(dm x0).all (λ e=>decide (e.1<i)&&dt i e.2)&&decide (((dm x0).map λ e=>ap σ0 e.1).Nodup)&&decide (m≤i)&&(List.range m).all (λ j=>ap σ0 j==j))=true)
 (E:∀(k:Nat) (z:Int) x,o.reverse[k]? =some z→I k x→X lo false (λ J A y=>X lo true (λ Q os2 _=>∃x' σ,I (k+1) x'∧kx m Q os2 σ gx (dm x') i) J A y)
  (vq gx p q ((o.length-1-k:Nat):Int) z) (dm x) i)
 (F:∀x,I o.length x→K gx (dm x) i):IE P N m g os nx gv ps X K:=
 ⟨fB,o,p,q,lo,α,gx,dm,i,I,x0,σ0,M,u,B,hd,C,⟨h1,O,H⟩,E,F⟩
structure pD(m:Nat)(body:(Tm→Os→Nat→Prop)→Prop)(K:Tm→Os→Nat→Prop):Prop where
 h:∃(R:Prop) (gx:Tm) (dm:Os) (nx:Nat),body (λ g' cr _=>R∧∃σ,kx m g' cr σ gx dm nx)∧(R→K gx dm nx)
theorem EJ{body:(Tm→Os→Nat→Prop)→Prop}{K:Tm→Os→Nat→Prop}(R:Prop)(gx:Tm)(dm:Os)(nx:Nat)
 (j:body (λ g' cr _=>R∧∃σ,kx m g' cr σ gx dm nx)) (i:R→K gx dm nx):pD m body K:=⟨R,gx,dm,nx,j,i⟩
theorem pd{R:Prop}{gx:Tm}{dm:Os}(i:R)(σ:List (Nat×Nat))
 (o:gx.map (λ e=>cY (ap σ) e.2)=gx.map (λ e=>cO g' e.1)) (p:dm.map (λ e=>some (dq (ap σ) e.2))=dm.map λ e=>lk cr (ap σ e.1))
 (h1:(gx.all (λ e=>fu nx e.2)&&dm.all (λ e=>decide (e.1<nx)&&dt nx e.2)&&decide ((dm.map λ e=>ap σ e.1).Nodup)&&decide (m≤nx)&&(List.range m).all (λ j=>ap σ j==j))=true):
 R∧∃σ,kx m g' cr σ gx dm nx:=⟨i,σ,h1,.of_eq o,.of_eq p⟩
theorem BP{R:Prop}{gx:Tm}{dm:Os}(i:R)(σ:List (Nat×Nat))
 (o:eZ (gx.map λ e=>cO g' e.1) (gx.map λ e=>cY (ap σ) e.2)) (p:dP (dm.map λ e=>lk cr (ap σ e.1)) (dm.map λ e=>some (dq (ap σ) e.2)))
 (h1:(gx.all (λ e=>fu nx e.2)&&dm.all (λ e=>decide (e.1<nx)&&dt nx e.2)&&decide ((dm.map λ e=>ap σ e.1).Nodup)&&decide (m≤nx)&&(List.range m).all (λ j=>ap σ j==j))=true):
 R∧∃σ,kx m g' cr σ gx dm nx:=⟨i,σ,h1,o,p⟩
def BV(P:Program):Op→Bool
 |.indexAddr t _ (.tmp _)=>match P.underlying t with|some (.array ..)=>true|_=>false
 |.index t _ (.tmp _)=>match P.underlying t with|some (.array ..)=>true|_=>false
 |_=>false
def XD(P:Program):Code→Bool
 |.cond .. =>true
 |.block .. =>true
 |.region _ ops _=>ops.toList.any λ o=>o.guard.isSome||BV P o.op
 |_=>false
def K2(j:Bool)(A B:Prop):Prop:=Bool.rec (motive:=λ _=>Prop) A (A∨B) j
theorem AH{j:Bool}{A B:Prop}(h:K2 j A B):A∨B:=by
 cases j
 ·exact .inl h
 ·exact h
def ep(P:Program)(G:eo):Sl→Nat→(Tm→Os→Prop)→Nat→List tK→Tm→Os→Nat→Prop
 |_,_,_,0,_,_,_,_=>False
 |_,_,fin,_+1,[],g,os,_=>fin g os
 |N,m,fin,n+1,.bB _::k,g,os,nx=>ep P G N m fin n k g os nx
 |_,_,_,_+1,.stop κ::_,g,os,nx=>κ g os nx
 |N,m,fin,n+1,.code c::k,g,os,nx=>
  K2 (XD P c) (match c with
  |.skip=>ep P G N m fin n k g os nx
  |.seq a b=>ep P G N m fin n (.code a::.code b::k) g os nx
  |.region _ ops draw=>kS (pV N ops.toList) (jJ P G ops nx ops.toList 0 g os [] λ g os log=>
   match draw with
   |false=>fN (nx+ops.size*W) λ nx=>ep P G N m fin n k g os nx
   |true=>Cj ops (kE log)=true∧fN (nx+ops.size*W) λ nx=>ep P G N m fin n k g os nx) False
  |.cond c x y=>match ig G (cO g) c with
   |.bool b=>uF b (ep P G N m fin n (.code x::k) g os nx) (ep P G N m fin n (.code y::k) g os nx)
   |.eR p=>(p→ep P G N m fin n (.code x::k) g os nx)∧ep P G N m fin n (.code y::k) g os nx
   |_=>False
  |.block id c=>ep P G N m fin n (.code c::.bB id::k) g os nx
  |.exit id=>match jZ id k with
   |some k'=>ep P G N m fin n k' g os nx
   |none=>False
  |.ret=>fin g os
  |.rangeFunc zf ps assign body=>(!N.no&&IK k)=true∧IE P N m g os nx (ig G (cO g) zf) ps.toList
   (λ lo b κ g os nx=>ep P G ⟨lo,N.n,true⟩ m (λ _ _=>False) n [.code (bif b then body else assign),.stop κ] g os nx)
   (λ g os nx=>ep P G {N with no:=true} m fin n k g os nx)
  |.loop body=>sH m g os λ κ=>ep P G N m fin n (.code body::.stop κ::k)
  |_=>False) (pD m (λ κ=>ep P G N m fin n (.code c::.stop κ::k) g os nx) (ep P G N m fin n k))
def KQ(P:Program)(C:Cx)(r:Option Nat)(B:Exit→Act→World→Prop):List tK→Exit→Act→World→Prop
 | []=>B
 |.code c::k=>Exit.then (c.wpIn (WF r) 0 P (KQ P C r B k)) (KQ P C r B k)
 |.bB id::k=>Exit.inBlock id (KQ P C r B k)
 |.stop κ::k=>Exit.then (λ a w=>∃g os nx S ι,κ g os nx∧Inv C S ι (λ x=>nx≤x) (dn g os) a w) (KQ P C r B k)
theorem S8{C:Cx}{B:Exit→Act→World→Prop}{id:Nat}:∀{k k':List tK},jZ id k=some k'→∀{a:Act} {w:World},KQ P C r B k' .normal a w→KQ P C r B k (.exit id) a w:=by
 intro k;induction k with
 |nil=>intro k' h;simp[jZ]at h
 |cons f k ih=>
  intro k' h a w j;cases f with
  |code c=>exact ih (by simpa[jZ]using h) j
  |stop κ=>exact ih (by simpa[jZ]using h) j
  |bB i=>
   simp only[jZ]at h;simp only[KQ,Exit.inBlock];grind
theorem TX{C:Cx}{B:Exit→Act→World→Prop}:∀{k:List tK} {a:Act} {w:World},B .ret a w→KQ P C r B k .ret a w:=by
 intro k;induction k with
 |nil=>intro a w h;exact h
 |cons f k ih=>intro a w h;cases f<;>exact ih h
theorem Zo2{Q:Exit→Act→World→Prop}{c:Code}(I:Nat→Act→World→Prop)
 (round:∀n a w,I n a w→c.wpIn (WF r) 0 P (Exit.then (λ a' w'=>∃m<n,I m a' w') Q) a w):∀n a w,I n a w→(Code.loop c).wpIn (WF r) 0 P Q a w:=by
 intro n a w p;have key:∀n a w,I n a w→∀(b:Frame) (k:List Item) (cs:List Frame),b.roundOf=r→
  ∃e a' w',Q e a' w'∧ArrivesIn (Machine.fenced P (WF r)) P (lone (b.atR a (.code c::.inLoop c::k)) cs w) b k cs e a' w':=by
  intro n;induction n using Nat.strongRecOn with
  |_ n ih=>
   intro a w p b k cs j;obtain⟨e,a₁,w₁,o,i⟩:=round n a w p b (.inLoop c::k) cs j trivial (AF _ _);cases e with
   |normal=>
    obtain⟨m,q,hI₁⟩:=o;obtain⟨e₂,a₂,w₂,hq₂,Sfr₂⟩:=ih m q a₁ w₁ hI₁ b k cs j;exact⟨e₂,a₂,w₂,hq₂,.of_steps (StepsIn.trans i (.one (fenced_wide P _) stepR_inLoop)) Sfr₂⟩
   |exit id=>exact⟨_,a₁,w₁,o,.pass (x:=.inLoop c) rfl (λ _ _=>.inl (by simp)) i⟩
   |goto l=>exact⟨_,a₁,w₁,o,.pass (x:=.inLoop c) rfl (λ _ _=>.inl (by simp)) i⟩
   |ret=>exact⟨_,a₁,w₁,o,.pass (x:=.inLoop c) rfl (λ _ _=>.inl (by simp)) i⟩
   |panic ch=>exact⟨_,a₁,w₁,o,.pass (x:=.inLoop c) rfl (λ _ _=>.inl (by simp)) i⟩
   |outgrown=>exact⟨_,a₁,w₁,o,.pass (x:=.inLoop c) rfl (λ _ _=>.inl (by simp)) i⟩
 intro b k cs j _ _;obtain⟨e,a',w',o,i⟩:=key n a w p b k cs j;exact⟨e,a',w',o,.of_steps (.one (fenced_wide P _) stepR_loop) i⟩
theorem Exit.lQ{c:Code}{N1 N2:Act→World→Prop}{Q:Exit→Act→World→Prop}{a:Act}{w:World}
 (h:c.wpIn (WF r) 0 P (Exit.then N1 Q) a w) (hn:∀a w,N1 a w→N2 a w):c.wpIn (WF r) 0 P (Exit.then N2 Q) a w:=
 wpIn_mono h (λ e a w i=>by cases e<;>first|exact hn a w i|exact i)
theorem Pd{N:Sl}:∀{l:List Oper},pV N l=true→∀o∈l,zm o.op=false:=by
 intro l;induction l with
 |nil=>simp
 |cons x r ih=>
  intro h o ho;simp only[pV,Yi]at h;grind
end
section
variable {α:Type}
theorem uJ:∀{os:Os} {o:Nat} {x:AO},lk os o=some x→(o,x)∈os:=by
 intro os;induction os with
 |nil=>intro o x h;simp[lk]at h
 |cons e r ih=>
  intro o x h;simp only[lk]at h;grind
theorem Oe:∀{g:Tm} {t:Nat},cO g t=.undef∨(t,cO g t)∈g:=by
 intro g;induction g with
 |nil=>intro t;exact .inl rfl
 |cons e r ih=>
  intro t;simp only[cO];grind
theorem MW{f g:α→AV}:∀{l:List α},eZ (l.map f) (l.map g)→∀x∈l,Wk (f x) (g x)
 | [],_,x,hx=>by cases hx
 |a::r,h,x,hx=>by
  cases hx with
  |head=>exact h.1
  |tail _ hx=>exact MW (l:=r) h.2 x hx
theorem Ob{f:α→Option AO}{g:α→AO}:∀{l:List α},dP (l.map f) (l.map λ e=>some (g e))→∀x∈l,∃y,f x=some y∧gO y (g x)
 | [],_,x,hx=>by cases hx
 |a::r,h,x,hx=>by
  cases hf:f a with
  |none=>simp only[Yy,hf,dP]at h
  |some y=>
   simp only[Yy,hf,dP]at h;cases hx with
   |head=>simp_all
   |tail _ hx=>exact Ob (l:=r) h.2 x hx
theorem ZW{β:Type}{f:α→β}:∀{l:List α},(l.map f).Nodup→∀x y,x∈l→y∈l→f x=f y→x=y:=by
 intro l;induction l with
 |nil=>simp
 |cons a r ih=>
  grind
theorem Inv.vO{C:Cx}{S:Nat→Prop}{ι:bp}{un:Nat→Prop}{g:Tm}{os:Os}{a:Act}{w:World}(h:Inv C S ι un (dn g os) a w)
 {σ:List (Nat×Nat)} {gx:Tm} {dm:Os} {nx:Nat} (hc:kx C.m g os σ gx dm nx):∃ι',Inv C S ι' (λ x=>nx≤x) (dn gx dm) a w:=by
 obtain⟨hb,hg,ho⟩:=hc;simp only[Yi,YB]at hb;obtain⟨⟨⟨⟨lB,Q⟩,X⟩,hmx⟩,O⟩:=hb;have p:∀o x,lk dm o=some x→(∃y,lk os (ap σ o)=some y∧gO y (dq (ap σ) x))∧o<nx∧dt nx x=true:=by
  intro o x u;have F:=uJ u;have h1:=Ob ho (o,x) F;have q:=YW.1 Q (o,x) F;simp only[Yi,YB]at q;exact⟨h1,q.1,q.2⟩
 have i:∀o<nx,∀l,ιback ι (ap σ) nx o=some l→ι (ap σ o)=some l:=by
  intro o ho l A;simp only[ιback]at A;rw[if_pos ho]at A;exact A
 refine⟨ιback ι (ap σ) nx,?_,h.sz,h.df,?_,?_,?_,h.sb,h.sn,?_,h.fr,h.fo,h.gv,h.s0,λ j L e=>by
  have RI:=C.QX j L e;have h1:=YW.1 O j (List.mem_range.2 RI);simp only[Vy]at h1;simp only[ιback];rw[if_pos (by omega),h1]
  exact h.hj j L e⟩
 ·intro t;rcases Oe (g:=gx) (t:=t)with hu|F
  ·show cz S w _ (cO gx t) _;rw[hu];exact .cu _ _ (.undef _)
  ·have h1:=MW hg _ F;simp only at h1;have q:=YW.1 lB _ F;refine cz.fk _ _ q ?_;show cz S w ι (cY (ap σ) (cO gx t)) _;exact h1.rep _ (h.tm t)
 ·intro o x u;obtain⟨⟨y,h1,z⟩,q,U⟩:=p o x u;exact cX.fk q U (z.ok (h.ob _ _ h1))
 ·intro o x u B l A b T;obtain⟨⟨y,h1,z⟩,q,U⟩:=p o x u;exact h.own _ _ h1 (by rw[←z.live,nB];exact B) l (i o q _ A) b (uL z T)
 ·intro o o' x x' u E B M l l' A Y b V J;obtain⟨⟨y,h1,z⟩,q,U⟩:=p o x u;obtain⟨⟨y',Z,H⟩,R,LM⟩:=p o' x' E;have:=h.inj _ _ _ _ h1 Z (by rw[←z.live,nB];exact B) (by rw[←H.live,nB];exact M) l l' (i o q _ A) (i o' R _ Y) b (uL z V) (uL H J)
  have:=ZW X (o,x) (o',x') (uJ u) (uJ E) this;simp_all
 ·intro o hn;simp only[ιback];grind
theorem ZnG(n:Nat):List.range' 0 n=List.range n:=by rw[List.range_eq_range']
end
end Go.Ab
