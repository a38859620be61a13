import Derived.Test.YtjpmdkgonlmddaaGreatDoorAbG
import Derived.RangeFuncSeq
set_option linter.unusedVariables false
namespace Go.Ab
def kg(ev:Operand→AV)(o:Option Operand)(d:Nat)(K:Nat→Prop):Prop:=
 match o with
 |none=>K d
 |some x=>match ev x with
  |.int _ i=>0≤i∧K i.toNat
  |_=>False
def cut{α:Type}(lo hi:Option Operand)(xs:List α)(a b:Nat):List α:=
 match lo,hi with
 |none,none=>xs
 |none,some _=>xs.take b
 |some _,none=>xs.drop a
 |some _,some _=>(xs.take b).drop a
theorem sW{ev:Operand→AV}{o:Option Operand}{d:Nat}{K:Nat→Prop}(h:kg ev o d K):∃n,fq ev o d n∧K n:=by
 unfold kg at h;split at h
 ·exact⟨d,rfl,h⟩
 ·rename_i x
  split at h
  ·rename_i k i e
   exact⟨i.toNat,⟨k,i,e,h.1,rfl⟩,h.2⟩
  simp_all
theorem JT{α:Type}{ev:Operand→AV}{lo hi:Option Operand}{xs:List α}{a b:Nat}(ha:fq ev lo 0 a)(hb:fq ev hi xs.length b):cut lo hi xs a b=(xs.take b).drop a:=by
 unfold cut;split
 ·simp only[fq]at ha hb;simp_all
 ·simp only[fq]at ha;simp_all
 ·simp only[fq]at hb;simp_all
 ·rfl
def dU(n:Nat)(rs:List (List AV)):Prop:=∀r,r∈rs→r.length=n
theorem dU.nil{n:Nat}:dU n []:=fun r h=>by cases h
theorem dU.cons{n:Nat}{r:List AV}{rs:List (List AV)}(h:r.length=n)(hr:dU n rs):dU n (r::rs):=fun x hx=>by
 rcases Yh.1 hx with rfl|hx
 ·exact h
 ·exact hr x hx
theorem dU.map{α:Type}{n:Nat}{f:α→List AV}{l:List α}(h:∀x,(f x).length=n):dU n (l.map f):=fun r hr=>by
 grind
theorem dU.append{n:Nat}{rs qs:List (List AV)}(h:dU n rs)(h':dU n qs):dU n (rs++qs):=fun r hr=>by
 rcases Yw.1 hr with hr|hr
 ·exact h r hr
 ·exact h' r hr
def kP(P:Program)(kt:TypeId)(k:AV):List (AV×AV)→Nat→(Option Nat→Prop)→Prop
 | [],_,K=>K none
 |e::es,i,K=>match cY P kt k e.1 with
  |some b=>sR b (K (some i)) (kP P kt k es (i+1) K)
  |none=>False
theorem GX{P:Program}{kt:TypeId}{k:AV}:∀{es:List (AV×AV)} {i:Nat} {K:Option Nat→Prop},kP P kt k es i K→∃r,fQ P kt k es i r∧K r:=by
 intro es
 induction es with
 |nil=>intro i K h;exact⟨none,rfl,h⟩
 |cons e es ih=>
  intro i K h;simp only[kP]at h;split at h
  ·rename_i b hb
   rcases fH h with ⟨rfl,h⟩|⟨rfl,h⟩
   ·exact⟨some i,.inl ⟨hb,rfl⟩,h⟩
   ·obtain⟨r,h1,h2⟩:=ih h
    exact⟨r,.inr ⟨hb,h1⟩,h2⟩
  simp_all
def fE:List (AV×AV)→(List (AV×AV)→Prop)→Prop
 | [],K=>K []
 |e::r,K=>ic e.1 fun a=>ic e.2 fun b=>fE r fun r=>K ((a,b)::r)
theorem ug:∀(l:List (AV×AV)) (K:List (AV×AV)→Prop),fE l K=K l
 | [],K=>rfl
 |e::r,K=>by simp only[fE];rw[lb,lb,ug]
def GG(P:Program)(t:TypeId)(es:List (AV×AV))(r:Option Nat)(K:AV→Bool→Prop):Prop:=
 Option.rec (motive:=fun _=>Prop) (opt (fX P t) fun vt=>opt (zeroV P vt) fun v=>ic v fun v=>K v false) (fun i=>opt (es[i]?) fun e=>ic e.2 fun v=>K v true) r
def fM(p:Bool)(es:List (AV×AV))(K:AO→Prop):Prop:=
 Bool.rec (motive:=fun _=>Prop) (fE es fun es=>K (.aw false es)) (fE es fun es=>K (.aw true es)) p
theorem uf(p:Bool)(es:List (AV×AV))(K:AO→Prop):fM p es K=K (.aw p es):=by
 cases p<;>(simp only[fM];rw[ug])
def fb{κ ν:Type}(ek:κ→AV)(en:ν→AV)(L:List (κ×ν)):List (AV×AV):=L.map fun p=>(ek p.1,en p.2)
def ak{κ ν:Type}[DecidableEq κ](q:κ):List (κ×ν)→Option ν
 | []=>none
 |e::r=>if q=e.1 then some e.2 else ak q r
def bw{κ ν:Type}[DecidableEq κ](q:κ)(x:ν):List (κ×ν)→List (κ×ν)
 | []=>[(q,x)]
 |e::r=>if q=e.1 then(q,x)::r else e::bw q x r
def mix{κ ν:Type}[DecidableEq κ](q:κ):List (κ×ν)→Option Nat
 | []=>none
 |e::r=>if q=e.1 then some 0 else(mix q r).map (· +1)
structure xc(P:Program)(kt:TypeId)(es:List (AV×AV))(k v:AV)(p:Bool)(K:AO→Prop):Prop where
 h:∃r v',Wk v v'∧fQ P kt k es 0 r∧es.length+1≤bm∧K (.aw (p&&ur v') (iT es r k v'))
structure uV(P:Program)(t kt:TypeId)(es:List (AV×AV))(k:AV)(K:AV→Bool→Prop):Prop where
 h:∃(r:Option Nat) (v:AV),fQ P kt k es 0 r∧((∃i e,r=some i∧es[i]? =some e∧v=e.2)∨(r=none∧∃vt zv,fX P t=some vt∧zeroV P vt=some zv∧Wk zv v))∧K v r.isSome
structure oA(P:Program)(t kt:TypeId)(ok:Bool)(k:AV)(o z:Nat)(fs:List (AV×List (List AV)))(h:Option (Nat×Nat))(id:Nat)(K:AV→List (Nat×Option AO)→List Nat→Prop):Prop where
 h:(∃i e,h=none∧fQ P kt k (eU fs) 0 (some i)∧fs[i]? =some e∧K (if ok then .bN [.an id z,.bool true]else .an id z) [(id,some (.rows true e.2)),(o,some (.bL z fs (some (i,id))))] [])∨
  (∃r,ok=true∧fQ P kt k (eU fs) 0 r∧(∃vt zv,fX P t=some vt∧zeroV P vt=some zv)∧K (.bN [.undef,.bool r.isSome]) [] [o])∨
  (∃v,fQ P kt k (eU fs) 0 none∧(∃vt zv,fX P t=some vt∧zeroV P vt=some zv∧Wk zv v)∧K (if ok then .bN [v,.bool false]else v) [] [o])
structure xe(P:Program)(kt:TypeId)(k v:AV)(o z:Nat)(fs:List (AV×List (List AV)))(h:Option (Nat×Nat))(ol:Nat→Option AO)(K:List (Nat×Option AO)→Prop):Prop where
 h:∃r q rs,fQ P kt k (eU fs) 0 r∧C0 h r∧fs.length+1≤bm∧v=.an q z∧ol q=some (.rows true rs)∧(∀row,row∈rs→row.length=z)∧0<z∧q≠o∧
  K [(o,some (.bL z (iS fs r k rs) none)),(q,none)]
structure Cg(P:Program)(kt:TypeId)(k:AV)(o z:Nat)(fs:List (AV×List (List AV)))(h:Option (Nat×Nat))(K:List (Nat×Option AO)→Prop):Prop where
 h:∃r,fQ P kt k (eU fs) 0 r∧C0 h r∧K [(o,some (.bL z (kE fs r) none))]
structure XS(id:Nat)(K:AV→List (Nat×Option AO)→List Nat→Prop):Prop where
 h:(∃z,K (.aw id) [(id,some (.bL z [] none))] [])∨K (.aw id) [(id,some (.bK [] none))] []
structure oz(P:Program)(t kt:TypeId)(ok:Bool)(k:AV)(o:Nat)(es:List (AV×Gr))(h:Option (Nat×Nat))(id:Nat)(K:AV→List (Nat×Option AO)→List Nat→Prop):Prop where
 h:(∃i e,h=none∧fQ P kt k (fC es) 0 (some i)∧es[i]? =some e∧e.2.length≤W∧K (if ok then .bN [.ptr id 0 0,.bool true]else .ptr id 0 0) (oW id (rB 0 e.2)++[(o,some (.bK es (some (i,id))))]) [])∨
  (∃i q,h=some (i,q)∧fQ P kt k (fC es) 0 (some i)∧K (if ok then .bN [.ptr q 0 0,.bool true]else .ptr q 0 0) [] [o])∨
  (∃v,fQ P kt k (fC es) 0 none∧(∃vt zv,fX P t=some vt∧zeroV P vt=some zv∧Wk zv v)∧K (if ok then .bN [v,.bool false]else v) [] [o])
structure xd(P:Program)(kt:TypeId)(k v:AV)(o:Nat)(es:List (AV×Gr))(h:Option (Nat×Nat))(K:List (Nat×Option AO)→Prop):Prop where
 h:∃q g0,h=none∧fQ P kt k (fC es) 0 none∧es.length+1≤bm∧v=.ptr q 0 0∧K [(o,some (.bK (es++[(k,g0)]) (some (es.length,q))))]
structure Ce(P:Program)(kt:TypeId)(es:List (AV×AV))(k:AV)(p:Bool)(K:AO→Prop):Prop where
 h:∃r,fQ P kt k es 0 r∧K (.aw p (kF es r))
structure IG(P:Program)(ev:Operand→AV)(ol:Nat→Option AO)(id o z sz:Nat)(lo hi:Option Operand)(K:AV→List (Nat×Option AO)→List Nat→Prop):Prop where
 h:∃rs hi',lo=none∧hi=some hi'∧ol o=some (.rows true rs)∧z=sz∧kg ev (some hi') rs.length fun b=>b≤rs.length∧K (.an id z) [(id,some (.rows true (rs.take b))),(o,none)] []
section
variable {P:Program}{t kt:TypeId}{κ ν:Type}[DecidableEq κ]{ek:κ→AV}{en:ν→AV}
theorem xE(heq:∀a b,cY P kt (ek a) (ek b)=some (decide (a=b)))(q:κ):∀(L:List (κ×ν)) (i:Nat),fQ P kt (ek q) (fb ek en L) i ((mix q L).map (· +i))
 | [],i=>rfl
 |e::r,i=>by
  simp only[fb,Yp,fQ,mix,heq]
  by_cases h:q=e.1
  ·simp_all
  ·right
   simp only[h,Yc,Option.map_map,decide_false,true_and]
   have:=xE heq q r (i+1)
   rw[show((fun x=>x+i)∘(fun x=>x+1))=(fun x:Nat=>x+(i+1)) by grind]
   exact this
theorem uv(q:κ):∀(L:List (κ×ν)),(mix q L=none∧ak q L=none)∨∃j e,mix q L=some j∧L[j]? =some e∧ak q L=some e.2
 | []=>.inl ⟨rfl,rfl⟩
 |e::r=>by
  by_cases h:q=e.1
  ·exact .inr ⟨0,e,by simp[mix,h],rfl,by simp[ak,h]⟩
  ·rcases uv q r with ⟨h1,h2⟩|⟨j,e',h1,h2,h3⟩
   ·exact .inl ⟨by simp[mix,h,h1],by simp[ak,h,h2]⟩
   ·exact .inr ⟨j+1,e',by simp[mix,h,h1],by simp_all,by simp[ak,h,h3]⟩
theorem Ka(q:κ)(x:ν):∀(L:List (κ×ν)),iT (fb ek en L) (mix q L) (ek q) (en x)=fb ek en (bw q x L)
 | []=>rfl
 |e::r=>by
  by_cases h:q=e.1
  ·simp[mix,h,iT,fb,bw]
  ·have:=Ka q x r
   simp only[mix,h,Yc,bw]
   cases hm:mix q r with
   |none=>rw[hm]at this;simp only[iT,Option.map_none,fb,Yp,YJ]at this⊢;rw[this]
   |some j=>rw[hm]at this;simp only[iT,Yo,fb,Yp,List.modify_succ_cons]at this⊢;rw[this]
theorem PF{es:List (AV×AV)}{k v:AV}{p:Bool}{K:AO→Prop}(L:List (κ×ν))(q:κ)(x:ν)(hes:es=fb ek en L)(hk:k=ek q)(hv:Wk v (en x))(hp:(p&&ur (en x))=true)
 (heq:∀a b,cY P kt (ek a) (ek b)=some (decide (a=b))) (hl:L.length+1≤bm) (hK:K (.aw true (fb ek en (bw q x L)))):xc P kt es k v p K:=by
 subst hes;subst hk
 have h1:=xE (en:=en) heq q L 0
 rw[show(fun x:Nat=>x+0)=id from rfl,Vo,id]at h1
 exact⟨_,en x,hv,h1,by simpa[fb]using hl,by rw[Ka,hp];exact hK⟩
theorem PX{es:List (AV×AV)}{k:AV}{K:AV→Bool→Prop}(L:List (κ×ν))(q:κ)(z:ν)(hes:es=fb ek en L)(hk:k=ek q)
 (heq:∀a b,cY P kt (ek a) (ek b)=some (decide (a=b))) (hz:∃vt zv,fX P t=some vt∧zeroV P vt=some zv∧Wk zv (en z))
 (hK:K (en ((ak q L).getD z)) (ak q L).isSome):uV P t kt es k K:=by
 subst hes;subst hk
 have h1:=xE (en:=en) heq q L 0
 rw[show(fun x:Nat=>x+0)=id from rfl,Vo,id]at h1
 rcases uv q L with ⟨h2,h3⟩|⟨j,e,h2,h3,h4⟩
 ·rw[h3]at hK;rw[h2]at h1
  exact⟨none,_,h1,.inr ⟨rfl,hz⟩,hK⟩
 ·rw[h4]at hK;rw[h2]at h1
  exact⟨some j,_,h1,.inl ⟨j,(ek e.1,en e.2),rfl,by simp[fb,h3],rfl⟩,hK⟩
theorem bq{α:Type}[DecidableEq α](a b:α):(a==b)=decide (a=b):=by
 rfl
theorem jK{k q:IntKind}(h:P.underlying kt=some (.int k))(a b:Int):cY P kt (.int q a) (.int q b)=some (decide (a=b)):=by
 simp only[cY,h];rfl
theorem mN(h:P.underlying kt=some .string)(a b:List UInt8):cY P kt (.str a) (.str b)=some (decide (a=b)):=by
 simp only[cY,h]
 grind
theorem Hf{fs:Array Field}(h:P.underlying kt=some (.struct fs))(q r:IntKind)(a b a' b':Int):
 cY P kt (.agg [.int q a,.int r b]) (.agg [.int q a',.int r b'])=some (decide (a=a'∧b=b')):=by
 simp only[cY,h];simp[bq]
end
def GH(P:Program)(ev:Operand→AV)(ol:Nat→Option AO)(id:Nat)(t:TypeId)(x:Operand)(lo hi:Option Operand)(K:AV→List (Nat×Option AO)→List Nat→Prop):Prop:=
 match ev x with
 |.str l=>match P.underlying t with
  |some .string=>kg ev lo 0 fun a=>kg ev hi l.length fun b=>a≤b∧b≤l.length∧K (.str (cut lo hi l a b)) [] []
  |_=>False
 |.sl xs=>opt (dY P t) fun sz=>(match lo with|none=>True|some _=>dU sz xs)∧kg ev lo 0 fun a=>kg ev hi xs.length fun b=>a≤b∧b≤xs.length∧K (.sl (cut lo hi xs a b)) [] []
 |.an o z=>opt (dY P t) fun sz=>opt (iA ol o) fun rs=>dU sz rs∧((kg ev lo 0 fun a=>kg ev hi rs.length fun b=>a≤b∧b≤rs.length∧K (.eN o a (b-a) (rs.length-a)) [] [o])∨IG P ev ol id o z sz lo hi K)
 |.eN o off len room=>opt (dY P t) fun sz=>opt (iA ol o) fun rs=>dU sz rs∧off+room≤rs.length∧kg ev lo 0 fun a=>kg ev hi len fun b=>a≤b∧b≤len∧K (.eN o (off+a) (b-a) (room-a)) [] [o]
 |_=>False
def Ko(P:Program)(ev:Operand→AV)(ol:Nat→Option AO)(id:Nat)(t tx:TypeId)(s x:Operand)(K:AV→List (Nat×Option AO)→List Nat→Prop):Prop:=
 match ev s with
 |.dq=>opt (dd ol (ev x)) fun q=>opt (dY P t) fun sz=>kf (iC P tx) (dU sz q.2.1∧q.2.1.length≤bm∧fU q.1 q.2.1 fun y=>K (.an id sz) [(id,some y)] q.2.2) False
 |.an o z=>match ol o with
  |some (.rows p rs)=>opt (dd ol (ev x)) fun q=>opt (dY P t) fun sz=>kf (iC P tx&&decide (z=sz)) (dU sz q.2.1∧dU sz rs∧rs.length+q.2.1.length≤bm∧
   fU (p&&q.1) (rs++q.2.1) fun y=>K (.an id sz) [(id,some y),(o,none)] q.2.2) False
  |_=>False
 |_=>False
def iQ(P:Program)(ev:Operand→AV)(ol:Nat→Option AO)(id:Nat)(op:Op)(K:AV→List (Nat×Option AO)→List Nat→Prop):Prop:=
 match op with
 |.slice t x lo hi none=>GH P ev ol id t x lo hi K
 |.slice t x none (some h) (some m)=>match ev h,ev m with
  |.int _ h,.int _ m=>match ev x with
   |.str _=>False
   |y=>opt (dY P t) fun _=>opt (dd ol y) fun q=>kf (decide (h=0)&&decide (m=0)) (K .dq [] q.2.2) False
  |_,_=>False
 |.makeSlice t l c=>match ev l,ev c with
  |.int _ n,.int _ m=>opt (dY P t) fun sz=>opt (fV P t) fun z=>fL z fun z=>0≤n∧n≤m∧m≤bm∧K (.an id sz) [(id,some (.rows true (List.replicate n.toNat z)))] []
  |_,_=>False
 |.buildSlice t len parts=>opt (dY P t) fun sz=>opt (fV P t) fun z=>opt (fp ev (fun i=>some (i*sz,sz)) parts.toList (List.replicate len z).flatten) fun cs=>fL cs fun cs=>
  kf (decide (len*sz≤16777216)&&decide (len≤bm)&&decide (cs.length=len*sz)&&cs.all jJ) (fU (cs.all gY) (chunk sz len cs) fun y=>K (.an id sz) [(id,some y)] []) False
 |.convert s d x=>match ev x with
  |.str l=>kf (rD P s d) (l.length≤bm∧K (.an id 1) [(id,some (.rows true (gj l)))] []) False
  |y=>opt (dd ol y) fun q=>kf (rD P d s) (∃l,q.2.1=gj l∧K (.str l) [] q.2.2) False
 |.makeMap t none=>kf (dr P t).isSome (K (.aw id) [(id,some (.aw true []))] []) False
 |.makeMap t (some x)=>match ev x with
  |.int _ _=>kf (dr P t).isSome (K (.aw id) [(id,some (.aw true []))] []) False
  |_=>False
 |.mapUpdate t m k x=>match ev m with
  |.aw o=>match ol o with
   |some (.aw p es)=>opt (dr P t) fun kt=>dz P kt (ev k)=true∧((kP P kt (ev k) es 0 fun r=>es.length+1≤bm∧fM (p&&ur (ev x)) (iT es r (ev k) (ev x)) fun y=>K .undef [(o,some y)] [])∨
    xc P kt es (ev k) (ev x) p fun y=>K .undef [(o,some y)] [])
   |_=>False
  |_=>False
 |.insert t m k x=>match ev m with
  |.aw o=>match ol o with
   |some (.aw p es)=>opt (dr P t) fun kt=>dz P kt (ev k)=true∧((kP P kt (ev k) es 0 fun r=>es.length+1≤bm∧fM (p&&ur (ev x)) (iT es r (ev k) (ev x)) fun y=>K .undef [(o,some y)] [])∨
    xc P kt es (ev k) (ev x) p fun y=>K .undef [(o,some y)] [])
   |_=>False
  |_=>False
 |.lookup t m k ok=>match ev m with
  |.aw o=>match ol o with
   |some (.aw _ es)=>opt (dr P t) fun kt=>dz P kt (ev k)=true∧((kP P kt (ev k) es 0 fun r=>GG P t es r fun v fd=>match ok with|true=>K (.bN [v,.bool fd]) [] [o]|false=>K v [] [o])∨
    uV P t kt es (ev k) fun v fd=>match ok with|true=>K (.bN [v,.bool fd]) [] [o]|false=>K v [] [o])
   |_=>False
  |.ei (.map none)=>opt (dr P t) fun kt=>dz P kt (ev k)=true∧(opt (fX P t) fun vt=>opt (zeroV P vt) fun v=>ic v fun v=>match ok with|true=>K (.bN [v,.bool false]) [] []|false=>K v [] [])
  |_=>False
 |.call {callee:=.builtin .append,args,argTypes}=>match args.toList,argTypes.toList with
  | [s,x],[t,tx]=>Ko P ev ol id t tx s x K
  |_,_=>False
 |_=>False
def E3(ev:Operand→AV)(ol:Nat→Option AO)(m:Operand):Bool:=
 match ev m with
 |.aw o=>(match ol o with|some (.bL ..)=>true|_=>false)
 |_=>false
def sf(b:Bool)(A B:Prop):Prop:=Bool.rec (motive:=fun _=>Prop) B A b
theorem tH{b:Bool}{A B:Prop}(h:sf b A B):A∨B:=by
 cases b
 ·exact .inr h
 ·exact .inl h
def yW:AO→AO
 |.rows _ rs=>.lit rs
 |x=>x
def ID(A:Prop):Prop:=A
structure JO(P:Program)(t:TypeId)(id:Nat)(K:AV→List (Nat×Option AO)→List Nat→Prop):Prop where
 h:∃k z cs,ie P t=some cs∧cs[k]? =some AV.dq∧K (.ptr id 0 0) [(id,some (.rows false [setAt cs k [.an (id+1) z]])),(id+1,some (.rows true []))] []
structure Ci(v:AV)(t:TypeId)(id:Nat)(K:AV→List (Nat×Option AO)→List Nat→Prop):Prop where
 h:∃k z cs,kA v=some cs∧cs[k]? =some AV.dq∧K (.ptr id 0 0) [(id,some (.rows false [setAt cs k [.an (id+1) z]])),(id+1,some (.rows true []))] []
structure JP(P:Program)(ev:Operand→AV)(t:TypeId)(ps:Array (Nat×Operand))(id:Nat)(K:AV→List (Nat×Option AO)→List Nat→Prop):Prop where
 h:∃k z cs,vP P ev t ps=some (.agg cs)∧cs[k]? =some AV.dq∧K (.agg (setAt cs k [.an id z])) [(id,some (.rows true []))] []
theorem A5{P:Program}{ev:Operand→AV}{t:TypeId}{ps:Array (Nat×Operand)}{id:Nat}{K:AV→List (Nat×Option AO)→List Nat→Prop}(k z:Nat)(cs:List AV)(hb:vP P ev t ps=some (.agg cs))(hk:cs[k]? =some AV.dq)
 (h:K (.agg (setAt cs k [.an id z])) [(id,some (.rows true []))] []):JP P ev t ps id K:=⟨k,z,cs,hb,hk,h⟩
theorem JR{v:AV}{t:TypeId}{id:Nat}{K:AV→List (Nat×Option AO)→List Nat→Prop}(k z:Nat)(cs:List AV)(hz:kA v=some cs)(hk:cs[k]? =some AV.dq)
 (h:K (.ptr id 0 0) [(id,some (.rows false [setAt cs k [.an (id+1) z]])),(id+1,some (.rows true []))] []):Ci v t id K:=⟨k,z,cs,hz,hk,h⟩
theorem K0{P:Program}{t:TypeId}{id:Nat}{K:AV→List (Nat×Option AO)→List Nat→Prop}(k z:Nat)(cs:List AV)(hz:ie P t=some cs)(hk:cs[k]? =some AV.dq)
 (h:K (.ptr id 0 0) [(id,some (.rows false [setAt cs k [.an (id+1) z]])),(id+1,some (.rows true []))] []):JO P t id K:=⟨k,z,cs,hz,hk,h⟩
def jP(P:Program)(ev:Operand→AV)(ol:Nat→Option AO)(id:Nat)(op:Op)(K:AV→List (Nat×Option AO)→List Nat→Prop):Prop:=
 match op with
 |.mapUpdate t m k x=>match ev m with
  |.aw o=>match ol o with
   |some (.bL z fs h)=>opt (dr P t) fun kt=>dz P kt (ev k)=true∧xe P kt (ev k) (ev x) o z fs h ol fun U=>K .undef U []
   |_=>False
  |_=>False
 |.insert t m k x=>match ev m with
  |.aw o=>match ol o with
   |some (.bL z fs h)=>opt (dr P t) fun kt=>dz P kt (ev k)=true∧xe P kt (ev k) (ev x) o z fs h ol fun U=>K .undef U []
   |_=>False
  |_=>False
 |.lookup t m k ok=>match ev m with
  |.aw o=>match ol o with
   |some (.bL z fs h)=>opt (dr P t) fun kt=>dz P kt (ev k)=true∧oA P t kt ok (ev k) o z fs h id K
   |_=>False
  |_=>False
 |.call {callee:=.builtin .delete,args,argTypes}=>match args.toList,argTypes.toList with
  | [m,k],[t,_]=>match ev m with
   |.aw o=>match ol o with
    |some (.bL z fs h)=>opt (dr P t) fun kt=>dz P kt (ev k)=true∧Cg P kt (ev k) o z fs h fun U=>K (.bN []) U []
    |some (.aw p es)=>opt (dr P t) fun kt=>dz P kt (ev k)=true∧Ce P kt es (ev k) p fun y=>K (.bN []) [(o,some y)] []
    |_=>False
   |_=>False
  |_,_=>False
 |.call {callee:=.builtin .clear,args,argTypes}=>match args.toList,argTypes.toList with
  | [x],[t]=>match ev x with
   |.eN o off len room=>match ol o with
    |some (.rows true rs)=>opt (dY P t) fun sz=>opt (fV P t) fun z=>fL z fun z=>dU sz rs∧off+room≤rs.length∧K (.bN []) [(o,some (.rows true (rs.take off++(List.replicate len z++rs.drop (off+len)))))] []
    |_=>False
   |_=>False
  |_,_=>False
 |.call {callee:=.builtin .copy,args,argTypes}=>match args.toList,argTypes.toList with
  | [d,s],[t,_]=>match ev d with
   |.an o _=>match ol o with
    |some (.rows p rs)=>opt (dY P t) fun sz=>opt (dd ol (ev s)) fun q=>dU sz rs∧dU sz q.2.1∧K (.int .i64 (min rs.length q.2.1.length:Nat)) [(o,some (.rows (p&&q.1) (rs.take 0++(q.2.1.take (min rs.length q.2.1.length)++rs.drop (0+min rs.length q.2.1.length)))))] q.2.2
    |_=>False
   |.eN o off len room=>match ol o with
    |some (.rows p rs)=>opt (dY P t) fun sz=>opt (dd ol (ev s)) fun q=>dU sz rs∧dU sz q.2.1∧off+room≤rs.length∧K (.int .i64 (min len q.2.1.length:Nat)) [(o,some (.rows (p&&q.1) (rs.take off++(q.2.1.take (min len q.2.1.length)++rs.drop (off+min len q.2.1.length)))))] q.2.2
    |_=>False
   |_=>False
  |_,_=>False
 |.buildSlice t len parts=>opt (dY P t) fun sz=>opt (fV P t) fun z=>opt (fp ev (fun i=>some (i*1,1)) parts.toList (List.replicate len z).flatten) fun cs=>fL cs fun cs=>
  kf (Nat.beq sz 1&&decide (len*1≤16777216)&&decide (len≤bm)&&decide (0<len)&&decide (cs.length=len*1)&&cs.all jJ&&cs.all gY) (fU true (chunk 1 len cs) fun y=>K (.an id 1) [(id,some (yW y))] []) False
 |.convert s d x=>match ev x with
  |.an o z=>match ol o with
   |some (.lit rs)=>kf (qy P s d&&Nat.beq z 1) (K (.an o 1) [(o,some (.rows true rs))] []) False
   |_=>False
  |_=>False
 |_=>False
def va(ev:Operand→AV)(ol:Nat→Option AO)(m:Operand):Bool:=
 match ev m with
 |.aw o=>(match ol o with|some (.bK ..)=>true|_=>false)
 |_=>false
def oD(P:Program)(ev:Operand→AV)(ol:Nat→Option AO)(id:Nat)(op:Op)(K:AV→List (Nat×Option AO)→List Nat→Prop):Prop:=
 match op with
 |.mapUpdate t m k x=>match ev m with
  |.aw o=>match ol o with
   |some (.bK es h)=>opt (dr P t) fun kt=>dz P kt (ev k)=true∧xd P kt (ev k) (ev x) o es h fun U=>K .undef U []
   |_=>False
  |_=>False
 |.insert t m k x=>match ev m with
  |.aw o=>match ol o with
   |some (.bK es h)=>opt (dr P t) fun kt=>dz P kt (ev k)=true∧xd P kt (ev k) (ev x) o es h fun U=>K .undef U []
   |_=>False
  |_=>False
 |.lookup t m k ok=>match ev m with
  |.aw o=>match ol o with
   |some (.bK es h)=>opt (dr P t) fun kt=>dz P kt (ev k)=true∧oz P t kt ok (ev k) o es h id K
   |_=>False
  |_=>False
 |_=>False
theorem RA{P:Program}{ev:Operand→AV}{ol:Nat→Option AO}{id:Nat}{op:Op}{K:AV→List (Nat×Option AO)→List Nat→Prop}
 (h:oD P ev ol id op K):∃v U RO,GStep P ev ol id op v U RO∧K v U RO:=by
 unfold oD at h;split at h
 ·rename_i t m k x
  split at h
  ·rename_i o hm
   split at h
   ·rename_i es hh ho
    obtain⟨kt,fF,h⟩:=bh h
    obtain⟨hc,q,g0,rfl,h2,h3,h4,h⟩:=h
    exact⟨_,_,_,.put _ t kt m k x (.inl rfl) o q es hm ho fF hc h2 h3 h4 g0,h⟩
   simp_all
  simp_all
 ·rename_i t m k x
  split at h
  ·rename_i o hm
   split at h
   ·rename_i es hh ho
    obtain⟨kt,fF,h⟩:=bh h
    obtain⟨hc,q,g0,rfl,h2,h3,h4,h⟩:=h
    exact⟨_,_,_,.put _ t kt m k x (.inr rfl) o q es hm ho fF hc h2 h3 h4 g0,h⟩
   simp_all
  simp_all
 ·rename_i t m k ok
  split at h
  ·rename_i o hm
   split at h
   ·rename_i es hh ho
    obtain⟨kt,fF,h⟩:=bh h
    obtain⟨hc,h⟩:=h
    rcases h.h with ⟨i,e,rfl,h1,h2,h3,h⟩|⟨i,q,rfl,h1,h⟩|⟨v,h1,h2,h⟩
    ·exact⟨_,_,_,.look t kt m k ok o es i e hm ho fF hc h1 h2 h3,h⟩
    ·exact⟨_,_,_,.same t kt m k ok o q es i hm ho fF hc h1,h⟩
    ·exact⟨_,_,_,.gB t kt m k ok o es hh v hm ho fF hc h1 h2,h⟩
   simp_all
  simp_all
 simp_all
theorem oU{α:Type}{a:Array α}{x y:α}(h:a.toList=[x,y]):a=#[x,y]:=by
 grind
theorem AA{α:Type}{a:Array α}{x:α}(h:a.toList=[x]):a=#[x]:=by
 grind
theorem gR{b:Bool}{A:Prop}(h:kf b A False):b=true∧A:=by
 rcases fH h with h|⟨_,h⟩
 all_goals simp_all
theorem xD{P:Program}{ev:Operand→AV}{ol:Nat→Option AO}{id:Nat}{op:Op}{K:AV→List (Nat×Option AO)→List Nat→Prop}
 (h:jP P ev ol id op K):∃v U RO,dZ P ev ol id op v U RO∧K v U RO:=by
 unfold jP at h;split at h
 ·rename_i t m k x
  split at h
  ·rename_i o hm
   split at h
   ·rename_i z fs hh ho
    obtain⟨kt,fF,h⟩:=bh h
    obtain⟨hc,r,q,rs,h1,h2,h3,h4,h5,h6,h7,h8,h⟩:=h
    exact⟨_,_,_,.eO _ t kt m k x (.inl rfl) o z q fs hh r rs hm ho fF hc h1 h2 h3 h4 h5 h6 h7 h8,h⟩
   simp_all
  simp_all
 ·rename_i t m k x
  split at h
  ·rename_i o hm
   split at h
   ·rename_i z fs hh ho
    obtain⟨kt,fF,h⟩:=bh h
    obtain⟨hc,r,q,rs,h1,h2,h3,h4,h5,h6,h7,h8,h⟩:=h
    exact⟨_,_,_,.eO _ t kt m k x (.inr rfl) o z q fs hh r rs hm ho fF hc h1 h2 h3 h4 h5 h6 h7 h8,h⟩
   simp_all
  simp_all
 ·rename_i t m k ok
  split at h
  ·rename_i o hm
   split at h
   ·rename_i z fs hh ho
    obtain⟨kt,fF,h⟩:=bh h
    obtain⟨hc,h⟩:=h
    rcases h.h with ⟨i,e,rfl,h1,h2,h⟩|⟨r,rfl,h1,h2,h⟩|⟨v,h1,h2,h⟩
    ·exact⟨_,_,_,.look t kt m k ok o z fs i e hm ho fF hc h1 h2,h⟩
    ·exact⟨_,_,_,.se t kt m k o z fs hh r hm ho fF hc h1 h2,h⟩
    ·exact⟨_,_,_,.gB t kt m k ok o z fs hh v hm ho fF hc h1 h2,h⟩
   simp_all
  simp_all
 ·rename_i args ts
  split at h
  ·rename_i m k t tk ha ht
   rw[oU ha,oU ht];split at h
   ·rename_i o hm
    split at h
    ·rename_i z fs hh ho
     obtain⟨kt,fF,h⟩:=bh h
     obtain⟨hc,r,h1,h2,h⟩:=h
     exact⟨_,_,_,.del t tk kt m k o z fs hh r hm ho fF hc h1 h2,h⟩
    ·rename_i p es ho
     obtain⟨kt,fF,h⟩:=bh h
     obtain⟨hc,r,h1,h⟩:=h
     exact⟨_,_,_,.qv t tk kt m k o p es r hm ho fF hc h1,h⟩
    simp_all
   simp_all
  simp_all
 ·rename_i args ts
  split at h
  ·rename_i x t ha ht
   rw[AA ha,AA ht];split at h
   ·rename_i o off len room hx
    split at h
    ·rename_i rs ho
     obtain⟨sz,hsz,h⟩:=bh h
     obtain⟨z,hz,h⟩:=bh h
     rw[gO]at h
     obtain⟨hl,hr,h⟩:=h
     exact⟨_,_,_,.Av t x o off len room true rs z sz hx ho hsz hz hl hr,h⟩
    simp_all
   simp_all
  simp_all
 ·rename_i args ts
  split at h
  ·rename_i d s t _ ha ht
   rw[oU ha,oU ht];split at h
   ·rename_i o z hd
    split at h
    ·rename_i p rs ho
     obtain⟨sz,hsz,h⟩:=bh h
     obtain⟨q,hq,hl,hl',h⟩:=bh h
     exact⟨_,_,_,.copy t _ d s o 0 rs.length p rs q sz ho (.inl ⟨z,hd,rfl,rfl⟩) hq hsz hl hl',h⟩
    simp_all
   ·rename_i o off len room hd
    split at h
    ·rename_i p rs ho
     obtain⟨sz,hsz,h⟩:=bh h
     obtain⟨q,hq,hl,hl',hr,h⟩:=bh h
     exact⟨_,_,_,.copy t _ d s o off len p rs q sz ho (.inr ⟨room,hd,hr⟩) hq hsz hl hl',h⟩
    simp_all
   simp_all
  simp_all
 ·rename_i t len parts
  obtain⟨sz,hsz,h⟩:=bh h
  obtain⟨z,hz,h⟩:=bh h
  obtain⟨cs,hcs,h⟩:=bh h
  rw[gO]at h
  obtain⟨hc,h'⟩:=gR h
  rw[kc]at h';simp only[Y9,Yx]at hc
  have h1:=Vq hc.1.1.1.1.1.1
  subst h1;exact⟨_,_,_,.so t len parts z cs hsz hz hc.1.1.1.1.1.2 hc.1.1.1.1.2 hc.1.1.1.2 hc.1.1.2 hc.1.2 hc.2 hcs,h'⟩
 ·rename_i s d x
  split at h
  ·rename_i o z hx
   split at h
   ·rename_i rs ho
    obtain⟨hc,h'⟩:=gR h
    rw[Y9]at hc
    have h1:=Vq hc.2
    subst h1;exact⟨_,_,_,.CT s d x o rs hx ho hc.1,h'⟩
   simp_all
  simp_all
 simp_all
theorem TM{P:Program}{ev:Operand→AV}{ol:Nat→Option AO}{id:Nat}{t:TypeId}{x:Operand}{lo hi:Option Operand}{K:AV→List (Nat×Option AO)→List Nat→Prop}
 (h:GH P ev ol id t x lo hi K):∃v U RO,dR P ev ol id (.slice t x lo hi none) v U RO∧K v U RO:=by
 unfold GH at h;split at h
 ·rename_i l hx
  split at h
  ·rename_i ht
   obtain⟨a,ha,h⟩:=sW h
   obtain⟨b,hb,h1,h2,h⟩:=sW h
   rw[JT ha hb]at h;exact⟨_,_,_,.nB t x lo hi l a b hx ht ha hb h1 h2,h⟩
  simp_all
 ·rename_i xs hx
  obtain⟨sz,hsz,hl,h⟩:=bh h
  obtain⟨a,ha,h⟩:=sW h
  obtain⟨b,hb,h1,h2,h⟩:=sW h
  rw[JT ha hb]at h
  refine⟨_,_,_,.sa t x lo hi xs a b sz hx hsz ?_ ha hb h1 h2,h⟩
  cases lo with
  |none=>exact .inl ha
  |some _=>exact .inr hl
 ·rename_i o z hx
  obtain⟨sz,hsz,h⟩:=bh h
  obtain⟨rs,hrs,hl,h⟩:=bh h
  rcases h with h|⟨eA,hi',h5,h6,ho,h7,h4⟩
  rotate_left
  ·subst h5;subst h6;subst h7
   obtain⟨b,hb,hbl,h3⟩:=sW h4
   have:rs=eA:=by
    unfold iA at hrs;rw[ho]at hrs
    injection hrs with hrs;exact hrs.symm
   subst this;exact⟨_,_,_,.sQ t x hi' o z b rs hx ho hl hsz hb hbl,h3⟩
  obtain⟨a,ha,h⟩:=sW h
  obtain⟨b,hb,h1,h2,h⟩:=sW h
  obtain⟨y,hy,hy'⟩:=wq hrs
  exact⟨_,_,_,.nC t x lo hi o z a b sz y rs hx hy hy' hl hsz ha hb h1 h2,h⟩
 ·rename_i o off len room hx
  obtain⟨sz,hsz,h⟩:=bh h
  obtain⟨rs,hrs,hl,hr,h⟩:=bh h
  obtain⟨a,ha,h⟩:=sW h
  obtain⟨b,hb,h1,h2,h⟩:=sW h
  obtain⟨y,hy,hy'⟩:=wq hrs
  exact⟨_,_,_,.nD t x lo hi o off len room a b sz y rs hx hy hy' hl hsz ha hb h1 h2 hr,h⟩
 simp_all
theorem Ql{P:Program}{ev:Operand→AV}{ol:Nat→Option AO}{id:Nat}{op:Op}{K:AV→List (Nat×Option AO)→List Nat→Prop}
 (h:iQ P ev ol id op K):∃v U RO,dR P ev ol id op v U RO∧K v U RO:=by
 unfold iQ at h;split at h
 ·exact TM h
 ·rename_i t x hh m
  split at h
  ·rename_i k1 h1 k2 m1 he hm
   split at h
   ·grind
   ·rename_i hs
    obtain⟨sz,hsz,h⟩:=bh h
    obtain⟨q,hq,h⟩:=bh h
    obtain⟨hc,h⟩:=gR h
    simp only[Y9,Yx]at hc
    obtain⟨rfl,rfl⟩:=hc
    exact⟨_,_,_,.lu t x none hh m k1 k2 q sz (fun l e=>hs l e) hq hsz rfl he hm,h⟩
  simp_all
 ·rename_i t l c
  split at h
  ·rename_i k1 n k2 m hl hc
   obtain⟨sz,hsz,h⟩:=bh h
   obtain⟨z,hz,h⟩:=bh h
   rw[gO]at h
   obtain⟨h0,h1,h2,h⟩:=h
   exact⟨_,_,_,.sk t l c k1 k2 n m z sz hl hc h0 h1 h2 hsz hz,h⟩
  simp_all
 ·rename_i t len parts
  obtain⟨sz,hsz,h⟩:=bh h
  obtain⟨z,hz,h⟩:=bh h
  obtain⟨cs,hcs,h⟩:=bh h
  rw[gO]at h
  obtain⟨hc,h⟩:=gR h
  simp only[Y9,Yx]at hc;rw[kc]at h;exact⟨_,_,_,.oc t len parts z cs sz hsz hz hc.1.1.1 hc.1.1.2 hc.1.2 hc.2 hcs,h⟩
 ·rename_i s d x
  split at h
  ·rename_i l hx
   obtain⟨hc,hl,h⟩:=gR h
   exact⟨_,_,_,.dQ s d x l hx hc hl,h⟩
  ·rename_i hs
   obtain⟨q,hq,h⟩:=bh h
   obtain⟨hc,l,hl,h⟩:=gR h
   exact⟨_,_,_,.toStr s d x l q (fun l e=>hs l e) hq hl hc,h⟩
 ·rename_i t
  obtain⟨hc,h⟩:=gR h
  exact⟨_,_,_,.mkMap t hc,h⟩
 ·rename_i t x
  split at h
  ·rename_i k n hx
   obtain⟨hc,h⟩:=gR h
   exact⟨_,_,_,.lx t x k n hc hx,h⟩
  simp_all
 ·rename_i t m k x
  split at h
  ·rename_i o hm
   split at h
   ·rename_i p es ho
    obtain⟨kt,fF,h⟩:=bh h
    obtain⟨hc,h⟩:=h
    rcases h with h|⟨r,v',jg,hr,hlim,h⟩
    ·obtain⟨r,hr,hlim,h⟩:=GX h
     rw[uf]at h;exact⟨_,_,_,.ik _ t kt m k x (.inl rfl) o p es r hm ho fF hc hr hlim _ (.refl _),h⟩
    ·exact⟨_,_,_,.ik _ t kt m k x (.inl rfl) o p es r hm ho fF hc hr hlim v' jg,h⟩
   simp_all
  simp_all
 ·rename_i t m k x
  split at h
  ·rename_i o hm
   split at h
   ·rename_i p es ho
    obtain⟨kt,fF,h⟩:=bh h
    obtain⟨hc,h⟩:=h
    rcases h with h|⟨r,v',jg,hr,hlim,h⟩
    ·obtain⟨r,hr,hlim,h⟩:=GX h
     rw[uf]at h;exact⟨_,_,_,.ik _ t kt m k x (.inr rfl) o p es r hm ho fF hc hr hlim _ (.refl _),h⟩
    ·exact⟨_,_,_,.ik _ t kt m k x (.inr rfl) o p es r hm ho fF hc hr hlim v' jg,h⟩
   simp_all
  simp_all
 ·rename_i t m k ok
  split at h
  ·rename_i o hm
   split at h
   ·rename_i p es ho
    obtain⟨kt,fF,h⟩:=bh h
    obtain⟨hc,h⟩:=h
    rcases h with h|⟨r,v,hr,hv,h⟩
    ·obtain⟨r,hr,h⟩:=GX h
     cases r with
     |none=>
      simp only[GG]at h
      obtain⟨vt,jt,h⟩:=bh h
      obtain⟨v,hv,h⟩:=bh h
      rw[lb]at h
      refine⟨_,_,_,.look t kt m k ok o p es _ v hm ho fF hc hr (.inr ⟨rfl,vt,v,jt,hv,.refl _⟩),?_⟩
      grind
     |some i=>
      simp only[GG]at h
      obtain⟨e,he,h⟩:=bh h
      rw[lb]at h
      refine⟨_,_,_,.look t kt m k ok o p es _ e.2 hm ho fF hc hr (.inl ⟨i,e,rfl,he,rfl⟩),?_⟩
      grind
    ·refine⟨_,_,_,.look t kt m k ok o p es r v hm ho fF hc hr hv,?_⟩
     grind
   simp_all
  ·rename_i hm
   obtain⟨kt,fF,h⟩:=bh h
   obtain⟨hc,h⟩:=h
   obtain⟨vt,jt,h⟩:=bh h
   obtain⟨v,hv,h⟩:=bh h
   rw[lb]at h
   refine⟨_,_,_,.nL t kt vt m k ok v hm fF hc jt hv,?_⟩
   grind
  simp_all
 ·rename_i args ts
  split at h
  ·rename_i s x t tx ha ht
   rw[oU ha,oU ht];unfold Ko at h;split at h
   ·rename_i hs
    obtain⟨q,hq,h⟩:=bh h
    obtain⟨sz,hsz,h⟩:=bh h
    obtain⟨hc,hl,hlim,h⟩:=gR h
    rw[kc]at h;exact⟨_,_,_,.qC t tx s x q sz hs hq hsz hc hl hlim,h⟩
   ·rename_i o z hs
    split at h
    ·rename_i p rs ho
     obtain⟨q,hq,h⟩:=bh h
     obtain⟨sz,hsz,h⟩:=bh h
     obtain⟨hc,hl,hl',hlim,h⟩:=gR h
     simp only[Y9,Yx]at hc;rw[kc]at h;exact⟨_,_,_,.qB t tx s x q sz o z p rs hs hc.2 ho hq hsz hc.1 hl hl' hlim,h⟩
    simp_all
   simp_all
  simp_all
 simp_all
def kd(P:Program)(t:TypeId):Option TypeId:=
 match P.underlying t with
 |some (.slice e)=>some e
 |_=>none
def gK(P:Program)(t:TypeId):Option Nat:=(dy P t).map (·.2)
structure je(P:Program)(G:db)(f:Nat)(jF:List AV)(ol:Nat→Option AO)(id:Nat)(K:AV→List (Nat×Option AO)→List Nat→Prop):Prop where
 h:(∃(V:List Nat) (oin:List (Nat×AO)) (bD:List AV) (rv:AV) (os':List (Nat×AO)),FC P G f oin bD rv os'∧rb V id ol jF oin bD∧
  ic (cd (bk V id) rv) fun v=>K v (gm V id os') V)∨
  (∃(V:List Nat) (oin:List (Nat×AO)) (bD:List AV) (rv:AV),FC P G f oin bD rv oin∧rb V id ol jF oin bD∧oin.map (fun e=>some (cC (bk V id) e.2))=V.map ol∧
  ic (cd (bk V id) rv) fun v=>K v [] V)
theorem Qv{P:Program}{G:db}{f:Nat}{jF:List AV}{ol:Nat→Option AO}{id:Nat}{K:AV→List (Nat×Option AO)→List Nat→Prop}
 (V:List Nat) {oin:List (Nat×AO)} {bD:List AV} {rv:AV} {os':List (Nat×AO)} (hf:FC P G f oin bD rv os')
 (h1:(decide V.Nodup&&eJ V.length bD&&oin.all fun e=>cE V.length e.2)=true) (h2:oin.map (·.1)=List.range V.length)
 (h3:du (V.map ol) (oin.map fun e=>some (cC (bk V id) e.2))) (h4:ep jF (fi (bk V id) bD)) (hK:ic (cd (bk V id) rv) fun v=>K v (gm V id os') V):
 je P G f jF ol id K:=⟨.inl ⟨V,oin,bD,rv,os',hf,⟨h1,h2,h3,h4⟩,hK⟩⟩
theorem uq{P:Program}{G:db}{f:Nat}{jF:List AV}{ol:Nat→Option AO}{id:Nat}{K:AV→List (Nat×Option AO)→List Nat→Prop}
 (V:List Nat) {oin:List (Nat×AO)} {bD:List AV} {rv:AV} {os':List (Nat×AO)} (hf:FC P G f oin bD rv os')
 (h1:(decide V.Nodup&&eJ V.length bD&&oin.all fun e=>cE V.length e.2)=true) (h2:oin.map (·.1)=List.range V.length)
 (h3:oin.map (fun e=>some (cC (bk V id) e.2))=V.map ol) (h4:fi (bk V id) bD=jF) (hK:ic (cd (bk V id) rv) fun v=>K v (gm V id os') V):
 je P G f jF ol id K:=⟨.inl ⟨V,oin,bD,rv,os',hf,⟨h1,h2,.of_eq h3,.of_eq h4⟩,hK⟩⟩
theorem JZ{P:Program}{G:db}{f:Nat}{jF:List AV}{ol:Nat→Option AO}{id:Nat}{K:AV→List (Nat×Option AO)→List Nat→Prop}
 (V:List Nat) {oin:List (Nat×AO)} {bD:List AV} {rv:AV} (hf:FC P G f oin bD rv oin)
 (h1:(decide V.Nodup&&eJ V.length bD&&oin.all fun e=>cE V.length e.2)=true) (h2:oin.map (·.1)=List.range V.length)
 (h3:oin.map (fun e=>some (cC (bk V id) e.2))=V.map ol) (h4:fi (bk V id) bD=jF) (hK:ic (cd (bk V id) rv) fun v=>K v [] V):
 je P G f jF ol id K:=⟨.inr ⟨V,oin,bD,rv,hf,⟨h1,h2,.of_eq h3,.of_eq h4⟩,h3,hK⟩⟩
def vS(K:Nat→Prop)(n:Int):Nat→Nat→Prop
 |0,_=>True
 |k+1,i=>sR (n==Int.ofNat i) (K i) (fN (i+1) fun j=>vS K n k j)
theorem Ru{K:Nat→Prop}{n:Int}:∀(k i:Nat),vS K n k i→(i:Int)≤n→n<(i+k:Nat)→K n.toNat:=by
 intro k
 induction k with
 |zero=>omega
 |succ k ih=>
  intro i h h1 h2;simp only[vS]at h
  rcases fH h with ⟨hb,hx⟩|⟨hb,hx⟩
  ·simp_all
  ·rw[kZ]at hx
   grind
theorem Ho{K:Nat→Prop}{n:Int}{k:Nat}(h0:0≤n)(h1:n<(k:Int))(h:K n.toNat∨vS K n k 0):K n.toNat:=by
 rcases h with h|h
 ·exact h
 ·exact Ru k 0 h (by omega) (by omega)
def Nk(A:Prop):Prop:=A
structure Nl(P:Program)(t:TypeId)(o i c:Nat)(p:Bool)(rs:List (List AV))(id:Nat)(K:AV→List (Nat×Option AO)→List Nat→Prop):Prop where
 h:∃z row n,rs[i]? =some row∧gK P t=some n∧1=n∧c+n≤row.length∧K .undef [(o,some (.rows (p&&[AV.an id z].all gY) (rs.set i (setAt row c [.an id z])))),(id,some (.rows true []))] []
theorem ij{P:Program}{t:TypeId}{o i c:Nat}{p:Bool}{rs:List (List AV)}{id:Nat}{K:AV→List (Nat×Option AO)→List Nat→Prop}(z:Nat)(row:List AV)(n:Nat)(h1:rs[i]? =some row)(h2:gK P t=some n)
 (h3:(decide (1=n)&&decide (c+n≤row.length))=true)
 (h:fU (p&&[AV.an id z].all gY) (rs.set i (setAt row c [.an id z])) fun y=>K .undef [(o,some y),(id,some (.rows true []))] []):Nl P t o i c p rs id K:=by
 rw[kc]at h;simp only[Y9,Yx]at h3;exact⟨z,row,n,h1,h2,h3.1,h3.2,h⟩
def AJ(P:Program)(ev:Operand→AV)(t:TypeId)(x:Operand)(o i c:Nat)(p:Bool)(rs:List (List AV))(K:AV→List (Nat×Option AO)→List Nat→Prop):Prop:=
 opt (rs[i]?) fun row=>opt (kA (ev x)) fun cs=>opt (gK P t) fun n=>
  kf (decide (cs.length=n)&&decide (c+n≤row.length)) (fU (p&&cs.all gY) (rs.set i (setAt row c cs)) fun y=>K .undef [(o,some y)] []) False
def Cl(P:Program)(G:db)(ev:Operand→AV)(ol:Nat→Option AO)(ids:List Nat)(id:Nat)(ty:TypeId)(op:Op)(K:AV→List (Nat×Option AO)→List Nat→Prop):Prop:=
 match op with
 |.assign (.const (.slice none 0 0))=>opt (dY P ty) fun z=>K (.an id z) [(id,some (.rows true []))] []
 |.pick c a b=>match ev c with
  |.bool t=>sR t (ic (ev a) fun v=>K v [] []) (ic (ev b) fun v=>K v [] [])
  |_=>False
 |.alloc t=>(opt (ie P t) fun cs=>fL cs fun cs=>K (.ptr id 0 0) [(id,some (.rows false [cs]))] [])∨JO P t id K
 |.box t x=>(opt (kA (ev x)) fun cs=>fL cs fun cs=>K (.ptr id 0 0) [(id,some (.rows false [cs]))] [])∨Ci (ev x) t id K
 |.load t a=>match ev a with
  |.ptr o i c=>opt (iA ol o) fun rs=>opt (rs[i]?) fun row=>opt (ng P t row c) fun v=>ic v fun v=>K v [] [o]
  |.rp row c=>opt (ng P t row c) fun v=>ic v fun v=>K v [] []
  |_=>False
 |.store t a x=>match ev a with
  |.ptr o i c=>match ol o with
   |some (.rows p rs)=>match ev x with
    |.an q _=>AJ P ev t x o i c p rs K∨Nk (match ol q with
     |some (.rows true xs)=>opt (rs[i]?) fun row=>opt (gK P t) fun n=>
      kf (decide (1=n)&&decide (c+n≤row.length)&&decide (o≠q)) (fU (p&&[AV.sl xs].all gY) (rs.set i (setAt row c [.sl xs])) fun y=>K .undef [(o,some y),(q,some (.cT xs))] []) False
     |_=>False)
    |.dq=>AJ P ev t x o i c p rs K∨Nl P t o i c p rs id K
    |_=>AJ P ev t x o i c p rs K
   |_=>False
  |_=>False
 |.indexAddr t x ix=>match ev ix with
  |.int _ n=>match ev x with
   |.sl xs=>0≤n∧opt (kd P t) fun e=>opt (gK P e) fun sz=>opt (xs[n.toNat]?) fun row=>kf (decide (sz=row.length)) (K (.rp row 0) [] []) False
   |.an o _=>0≤n∧opt (kd P t) fun e=>opt (gK P e) fun sz=>opt (iA ol o) fun rs=>opt (rs[n.toNat]?) fun row=>kf (decide (sz=row.length)) (K (.ptr o n.toNat 0) [] [o]) False
   |.eN o off len _=>0≤n∧n.toNat<len∧opt (kd P t) fun e=>opt (gK P e) fun sz=>opt (iA ol o) fun rs=>opt (rs[off+n.toNat]?) fun row=>
    kf (decide (sz=row.length)) (K (.ptr o (off+n.toNat) 0) [] [o]) False
   |.ptr o r c=>match P.underlying t with
    |some (.array len e)=>0≤n∧n<len∧opt (gK P e) fun sz=>K (.ptr o r (c+n.toNat*sz)) [] []∨vS (fun i=>K (.ptr o r (c+i*sz)) [] []) n len 0
    |_=>False
   |.rp row c=>match P.underlying t with
    |some (.array len e)=>0≤n∧n<len∧opt (gK P e) fun sz=>K (.rp row (c+n.toNat*sz)) [] []∨vS (fun i=>K (.rp row (c+i*sz)) [] []) n len 0
    |_=>False
   |_=>False
  |_=>False
 |.index t x ix=>match ev ix with
  |.int _ n=>match ev x with
   |.str l=>match P.underlying t with
    |some .string=>0≤n∧opt (l[n.toNat]?) fun c=>K (.int .u8 c.toNat) [] []
    |_=>False
   |.agg cs=>match P.underlying t with
    |some (.array len e)=>0≤n∧n<len∧opt (gK P e) fun sz=>(opt (ng P e cs (n.toNat*sz)) fun v=>ic v fun v=>K v [] [])∨vS (fun i=>opt (ng P e cs (i*sz)) fun v=>ic v fun v=>K v [] []) n len 0
    |_=>False
   |_=>False
  |_=>False
 |.binOp .quo _ x y _=>match ev x,ev y with
  |.int k a,.int k' b=>match decEq k k' with|.isTrue _=>b≠0∧K (.int k (k.wrap (a.tdiv b))) [] []|.isFalse _=>False
  |_,_=>False
 |.binOp .rem _ x y _=>match ev x,ev y with
  |.int k a,.int k' b=>match decEq k k' with|.isTrue _=>b≠0∧K (.int k (a.tmod b)) [] []|.isFalse _=>False
  |_,_=>False
 |.binOp .shl _ x y _=>match ev x,ev y with
  |.int k a,.int _ b=>0≤b∧K (.int k (k.wrap (a*2^(min b.toNat k.bits)))) [] []
  |_,_=>False
 |.binOp .shr _ x y _=>match ev x,ev y with
  |.int k a,.int _ b=>0≤b∧K (.int k (a.fdiv (2^(min b.toNat k.bits)))) [] []
  |_,_=>False
 |.binOp .eql t x (.const (.slice none 0 0)) _=>opt (kd P t) fun _=>match ev x with
  |.sl xs=>K (.eh (xs=[])) [] []
  |.an o _=>match ol o with
   |some (.rows true rs)=>K (.eh (rs=[])) [] [o]
   |_=>False
  |_=>False
 |.binOp op t x y _=>match ev x,ev y with
  |.agg cs,.agg ds=>match op with
   |.eql=>((kJ P 20 t&&!P.eqGuardType P.depth t&&decide (cs.length=P.cellsOf t)&&decide (ds.length=P.cellsOf t))=true∧∃fs,P.underlying t=some (.struct fs))∧
    opt (kI P 20 t cs ds 0) fun r=>K (.bool r) [] []
   |.neq=>((kJ P 20 t&&!P.eqGuardType P.depth t&&decide (cs.length=P.cellsOf t)&&decide (ds.length=P.cellsOf t))=true∧∃fs,P.underlying t=some (.struct fs))∧
    opt (kI P 20 t cs ds 0) fun r=>K (.bool !r) [] []
   |_=>False
  |.str a,.str b=>match op with
   |.add=>a.length+b.length≤9223372036854775807∧K (.str (a++b)) [] []
   |op=>opt (bin P op t (.str a) (.str b)) fun v=>K v [] []
  |x,y=>opt (bin P op t x y) fun v=>ic v fun v=>K v [] []
 |.call {callee:=.builtin .len,args,argTypes}=>opt (argTypes[0]?) fun t=>opt (args[0]?) fun x=>match ev x with
  |.an o _=>opt (kd P t) fun _=>opt (iA ol o) fun rs=>K (.int .i64 rs.length) [] [o]
  |.aw o=>match ol o with
   |some (.bL _ fs _)=>kf (dr P t).isSome (K (.int .i64 fs.length) [] [o]) False
   |_=>False
  |v=>opt (nO P t v) fun v=>K v [] []
 |.call {callee:=.value fn,args,..}=>match ev fn with
  |.fn f cap=>(opt (ko (ft ids ol 8) (args.toList.map ev++cap)) fun bD=>fL bD fun bD=>
   ∃rv os',FC P G f [] bD rv os'∧
    ((
     flat rv=true∧os'=[]∧ic rv fun rv=>K rv [] ids)∨∃V,(ko (ft V ol 8) (args.toList.map ev++cap)=some bD)∧
     opt (frozen V ol 8) fun U=>ic (cd (id+ ·) rv) fun rv=>K rv (U++oW id os') V))∨
   je P G f (args.toList.map ev++cap) ol id K
  |_=>False
 |.build t ps=>(opt (eB P ev (.build t ps)) fun v=>ic v fun v=>K v [] [])∨JP P ev t ps id K
 |.slice t x lo hi mx=>iQ P ev ol id (.slice t x lo hi mx) K
 |.convert s d x=>kf (qy P s d) (jP P ev ol id (.convert s d x) K) (kf (rD P s d||rD P d s) (iQ P ev ol id (.convert s d x) K) (opt (eB P ev (.convert s d x)) fun v=>ic v fun v=>K v [] []))
 |.makeSlice t l c=>iQ P ev ol id (.makeSlice t l c) K
 |.buildSlice t l ps=>iQ P ev ol id (.buildSlice t l ps) K∨ID (jP P ev ol id (.buildSlice t l ps) K)
 |.makeMap t none=>iQ P ev ol id (.makeMap t none) K∨kf (dr P t).isSome (XS id K) False
 |.makeMap t r=>iQ P ev ol id (.makeMap t r) K
 |.mapUpdate t m k x=>sf (E3 ev ol m) (jP P ev ol id (.mapUpdate t m k x) K) (sf (va ev ol m) (oD P ev ol id (.mapUpdate t m k x) K) (iQ P ev ol id (.mapUpdate t m k x) K))
 |.insert t m k x=>sf (E3 ev ol m) (jP P ev ol id (.insert t m k x) K) (sf (va ev ol m) (oD P ev ol id (.insert t m k x) K) (iQ P ev ol id (.insert t m k x) K))
 |.lookup t m k ok=>sf (E3 ev ol m) (jP P ev ol id (.lookup t m k ok) K) (sf (va ev ol m) (oD P ev ol id (.lookup t m k ok) K) (iQ P ev ol id (.lookup t m k ok) K))
 |.call {callee:=.builtin .append,args,argTypes}=>iQ P ev ol id (.call {callee:=.builtin .append,args,argTypes}) K
 |.call {callee:=.builtin .delete,args,argTypes}=>jP P ev ol id (.call {callee:=.builtin .delete,args,argTypes}) K
 |.call {callee:=.builtin .clear,args,argTypes}=>jP P ev ol id (.call {callee:=.builtin .clear,args,argTypes}) K
 |.call {callee:=.builtin .copy,args,argTypes}=>jP P ev ol id (.call {callee:=.builtin .copy,args,argTypes}) K
 |op=>opt (eB P ev op) fun v=>ic v fun v=>K v [] []
theorem xJ{P:Program}{t e:TypeId}(h:kd P t=some e):P.underlying t=some (.slice e):=by
 unfold kd at h
 grind
theorem tf{P:Program}{t:TypeId}{n:Nat}(h:gK P t=some n):∃b,dy P t=some (b,n):=by
 unfold gK at h;simp_all
theorem QQ{P:Program}{G:db}{ev:Operand→AV}{ol:Nat→Option AO}{ids:List Nat}{id:Nat}{ty:TypeId}{op:Op}{K:AV→List (Nat×Option AO)→List Nat→Prop}
 (h:Cl P G ev ol ids id ty op K):∃v U RO,gZ P G ev ol id op v U RO∧K v U RO:=by
 have pv:∀{op:Op},(opt (eB P ev op) fun v=>ic v fun v=>K v [] [])→∃v U RO,gZ P G ev ol id op v U RO∧K v U RO:=by
  intro op h
  obtain⟨v,hv,h⟩:=bh h
  rw[lb]at h
  exact⟨v,[],[],.of<|.pure op v hv,h⟩
 have bv:∀{op:Op},iQ P ev ol id op K→∃v U RO,gZ P G ev ol id op v U RO∧K v U RO:=by
  intro op h
  obtain⟨v,U,RO,h1,h2⟩:=Ql h
  exact⟨v,U,RO,.of<|.more op v U RO h1,h2⟩
 have fv:∀{b b':Bool} {op:Op},sf b (jP P ev ol id op K) (sf b' (oD P ev ol id op K) (iQ P ev ol id op K))→∃v U RO,gZ P G ev ol id op v U RO∧K v U RO:=by
  intro b b' op h
  rcases tH h with h|h
  ·obtain⟨v,U,RO,h1,h2⟩:=xD h
   exact⟨v,U,RO,.of<|.files op v U RO h1,h2⟩
  ·rcases tH h with h|h
   ·obtain⟨v,U,RO,h1,h2⟩:=RA h
    exact⟨v,U,RO,.of<|.jr op v U RO h1,h2⟩
   grind
 unfold Cl at h;split at h
 ·obtain⟨z,_,h⟩:=bh h
  exact⟨_,_,_,.of<|.nil z,h⟩
 ·rename_i c a b
  split at h
  ·rename_i t hc
   rcases fH h with ⟨ht,h'⟩|⟨ht,h'⟩
   ·subst ht
    rw[lb]at h'
    exact⟨_,_,_,.of<|.pick c a b true hc,h'⟩
   ·subst ht
    rw[lb]at h'
    exact⟨_,_,_,.of<|.pick c a b false hc,h'⟩
  simp_all
 ·rename_i t
  rcases h with h|⟨k,z,cs,hz,hk,h⟩
  ·obtain⟨cs,hz,h⟩:=bh h
   rw[gO]at h
   exact⟨_,_,_,.of<|.alloc t cs hz,h⟩
  ·exact⟨_,_,_,.of<|.files _ _ _ _ (.lK t cs k z hz hk),h⟩
 ·rename_i t x
  rcases h with h|⟨k,z,cs,hz,hk,h⟩
  ·obtain⟨cs,hz,h⟩:=bh h
   rw[gO]at h
   exact⟨_,_,_,.of<|.box t x cs hz,h⟩
  ·exact⟨_,_,_,.of<|.files _ _ _ _ (.sT t x cs k z hz hk),h⟩
 ·rename_i t a
  split at h
  ·rename_i o i c hev
   obtain⟨rs,hrs,h⟩:=bh h
   obtain⟨row,hrow,h⟩:=bh h
   obtain⟨v,hv,h⟩:=bh h
   rw[lb]at h
   obtain⟨y,hy,hy'⟩:=wq hrs
   rcases hy' with rfl|rfl|rfl
   ·exact⟨_,_,_,.of<|.load t a o i c _ rs row v hev hy hrow hv,h⟩
   ·exact⟨_,_,_,.of<|.load t a o i c _ rs row v hev hy hrow hv,h⟩
   ·exact⟨_,_,_,.of<|.nN t a o i c rs row v hev hy hrow hv,h⟩
  ·rename_i row c hev
   obtain⟨v,hv,h⟩:=bh h
   rw[lb]at h
   exact⟨_,_,_,.of<|.nM t a row c v hev hv,h⟩
  simp_all
 ·rename_i t a x
  split at h
  ·rename_i o i c hev
   split at h
   ·rename_i p rs ho
    have hX:AJ P ev t x o i c p rs K→∃v U RO,gZ P G ev ol id (.store t a x) v U RO∧K v U RO:=by
     intro h;unfold AJ at h
     obtain⟨row,hrow,h⟩:=bh h
     obtain⟨cs,hcs,h⟩:=bh h
     obtain⟨n,hn,h⟩:=bh h
     obtain⟨b,hk⟩:=tf hn
     rcases fH h with ⟨hc,h'⟩|⟨_,h'⟩
     ·simp only[Y9,Yx]at hc
      rw[kc]at h'
      exact⟨_,_,_,.of<|.store t a x o i c p rs row cs b n hev ho hrow hcs hk hc.1 hc.2,h'⟩
     ·grind
    split at h
    ·rename_i q z pw
     rcases h with h|h
     ·exact hX h
     ·unfold Nk at h
      split at h
      ·rename_i xs hq
       obtain⟨row,hrow,h⟩:=bh h
       obtain⟨n,hn,h⟩:=bh h
       obtain⟨b,hk⟩:=tf hn
       rcases fH h with ⟨hc,h'⟩|⟨_,h'⟩
       ·simp only[Y9,Yx]at hc
        rw[kc]at h'
        obtain⟨⟨hc1,hc2⟩,z8⟩:=hc
        subst hc1
        exact⟨_,_,_,.of<|.lp t a x o i c p rs row b q z xs hev ho hrow pw hq z8 hk hc2,h'⟩
       simp_all
      simp_all
    ·rename_i pw
     rcases h with h|⟨z,row,n,h1,h2,h3,h4,h⟩
     ·exact hX h
     ·obtain⟨b,hk⟩:=tf h2
      subst h3
      exact⟨_,_,_,.of<|.lr t a x o i c p rs row b z hev ho h1 pw hk h4,h⟩
    grind
   simp_all
  simp_all
 ·rename_i t x ix
  split at h
  ·rename_i k n hix
   split at h
   ·rename_i xs hev
    obtain⟨h0,h⟩:=h
    obtain⟨e,he,h⟩:=bh h
    obtain⟨sz,hsz,h⟩:=bh h
    obtain⟨row,hrow,h⟩:=bh h
    obtain⟨b,hk⟩:=tf hsz
    rcases fH h with ⟨hc,h'⟩|⟨_,h'⟩
    ·have hc:=YI hc
     subst hc
     exact⟨_,_,_,.of<|.nR t e x ix xs k n row b hev hix h0 hrow (xJ he) hk,h'⟩
    simp_all
   ·rename_i o z hev
    obtain⟨h0,h⟩:=h
    obtain⟨e,he,h⟩:=bh h
    obtain⟨sz,hsz,h⟩:=bh h
    obtain⟨rs,hrs,h⟩:=bh h
    obtain⟨row,hrow,h⟩:=bh h
    obtain⟨b,hk⟩:=tf hsz
    obtain⟨y,hy,hy'⟩:=wq hrs
    rcases fH h with ⟨hc,h'⟩|⟨_,h'⟩
    ·have hc:=YI hc
     subst hc
     exact⟨_,_,_,.of<|.lA t e x ix o z k n y rs row b hev hix h0 hy hy' hrow (xJ he) hk,h'⟩
    simp_all
   ·rename_i o off len room hev
    obtain⟨h0,h1,h⟩:=h
    obtain⟨e,he,h⟩:=bh h
    obtain⟨sz,hsz,h⟩:=bh h
    obtain⟨rs,hrs,h⟩:=bh h
    obtain⟨row,hrow,h⟩:=bh h
    obtain⟨b,hk⟩:=tf hsz
    obtain⟨y,hy,hy'⟩:=wq hrs
    rcases fH h with ⟨hc,h'⟩|⟨_,h'⟩
    ·have hc:=YI hc
     subst hc
     exact⟨_,_,_,.of<|.lB t e x ix o off len room k n y rs row b hev hix h0 h1 hy hy' hrow (xJ he) hk,h'⟩
    simp_all
   ·rename_i o r c hev
    split at h
    ·rename_i len e ht
     obtain⟨h0,h1,h⟩:=h
     obtain⟨sz,hsz,h⟩:=bh h
     obtain⟨b,hk⟩:=tf hsz
     exact⟨_,_,_,.of<|.lC t e x ix o r c len sz k n b hev hix h0 h1 ht hk,Ho (K:=fun i=>K (.ptr o r (c+i*sz)) [] []) h0 h1 h⟩
    simp_all
   ·rename_i row c hev
    split at h
    ·rename_i len e ht
     obtain⟨h0,h1,h⟩:=h
     obtain⟨sz,hsz,h⟩:=bh h
     obtain⟨b,hk⟩:=tf hsz
     exact⟨_,_,_,.of<|.jC t e x ix row c len sz k n b hev hix h0 h1 ht hk,Ho (K:=fun i=>K (.rp row (c+i*sz)) [] []) h0 h1 h⟩
    simp_all
   simp_all
  simp_all
 ·rename_i t x ix
  split at h
  ·rename_i k n hix
   split at h
   ·rename_i l hev
    split at h
    ·rename_i ht
     obtain⟨h0,h⟩:=h
     obtain⟨c,hc,h⟩:=bh h
     exact⟨_,_,_,.of<|.nA t x ix l k n c hev hix h0 hc ht,h⟩
    simp_all
   ·rename_i cs hev
    split at h
    ·rename_i len e ht
     obtain⟨h0,h1,h⟩:=h
     obtain⟨sz,hsz,h⟩:=bh h
     replace h:=Ho (K:=fun i=>opt (ng P e cs (i*sz)) fun v=>ic v fun v=>K v [] []) h0 h1 h
     obtain⟨v,hv,h⟩:=bh h
     rw[lb]at h
     obtain⟨b,hk⟩:=tf hsz
     exact⟨_,_,_,.of<|.od t e x ix cs len sz k n b v hev hix h0 h1 ht hk hv,h⟩
    simp_all
   simp_all
  simp_all
 ·rename_i t x y t'
  split at h
  ·rename_i k a k' b hx hy
   split at h
   ·rename_i e _;subst e
    exact⟨_,_,_,.of<|.quo t t' x y k a b hx hy h.1,h.2⟩
   simp_all
  simp_all
 ·rename_i t x y t'
  split at h
  ·rename_i k a k' b hx hy
   split at h
   ·rename_i e _;subst e
    exact⟨_,_,_,.of<|.rem t t' x y k a b hx hy h.1,h.2⟩
   simp_all
  simp_all
 ·rename_i t x y t'
  split at h
  ·rename_i k a k' b hx hy
   exact⟨_,_,_,.of<|.shl t t' x y k k' a b hx hy h.1,h.2⟩
  simp_all
 ·rename_i t x y t'
  split at h
  ·rename_i k a k' b hx hy
   exact⟨_,_,_,.of<|.shr t t' x y k k' a b hx hy h.1,h.2⟩
  simp_all
 ·rename_i t x t'
  obtain⟨e,he,h⟩:=bh h
  split at h
  ·rename_i xs hx
   exact⟨_,_,_,.of<|.si t t' e x xs hx (xJ he),h⟩
  ·rename_i o z hx
   split at h
   ·rename_i rs ho
    exact⟨_,_,_,.of<|.files _ _ _ _ (.nG t t' e x o z true rs hx ho (xJ he)),h⟩
   simp_all
  simp_all
 ·rename_i op t x y t' _ _ _ _ _
  split at h
  ·rename_i cs ds hx hy
   split at h
   ·obtain⟨⟨hp,hst⟩,h⟩:=h
    obtain⟨r,hr,h⟩:=bh h
    simp only[Y9,Yx,WW,W4]at hp
    exact⟨_,_,_,.of<|.nY t t' x y cs ds r hx hy hp.1.1.1 hp.1.1.2 hst hp.1.2 hp.2 hr,h⟩
   ·obtain⟨⟨hp,hst⟩,h⟩:=h
    obtain⟨r,hr,h⟩:=bh h
    simp only[Y9,Yx,WW,W4]at hp
    exact⟨_,_,_,.of<|.nI t t' x y cs ds r hx hy hp.1.1.1 hp.1.1.2 hst hp.1.2 hp.2 hr,h⟩
   simp_all
  ·rename_i a b hx hy
   split at h
   ·exact⟨_,_,_,.of<|.cat t t' x y a b hx hy h.1,h.2⟩
   ·refine pv ?_
    obtain⟨v,hv,h⟩:=bh h
    refine fm v ?_ (by rw[lb];exact h)
    simp only[eB,hx,hy];exact hv
  ·refine pv ?_
   simp only[eB];exact h
 ·rename_i args ts
  obtain⟨t,ht,h⟩:=bh h
  obtain⟨x,hx,h⟩:=bh h
  split at h
  ·rename_i o z hev
   obtain⟨e,he,h⟩:=bh h
   obtain⟨rs,hrs,h⟩:=bh h
   obtain⟨y,hy,hy'⟩:=wq hrs
   exact⟨_,_,_,.of<|.jX x ts args t e o z y rs hx ht (xJ he) hev hy hy',h⟩
  ·rename_i o hev
   split at h
   ·rename_i z fs hh ho
    obtain⟨hc,h⟩:=gR h
    exact⟨_,_,_,.of<|.files _ _ _ _ (.len x ts args t o z fs hh hx ht hc hev ho),h⟩
   simp_all
  ·obtain⟨v,hv,h⟩:=bh h
   exact⟨v,[],[],.of<|.pure _ v (by simp only[eB,ht,hx];exact hv),h⟩
 ·rename_i fn args ts
  split at h
  ·rename_i f cap hev
   rcases h with h|⟨⟨V,oin,bD,rv,os',hf,hh,h⟩|⟨V,oin,bD,rv,hf,hh,he,h⟩⟩
   rotate_left
   ·rw[lb]at h
    exact⟨_,_,_,.of<|.k9 fn args ts f cap V oin bD rv os' hev hh hf,h⟩
   ·rw[lb]at h
    refine⟨_,_,_,.same (.k9 fn args ts f cap V oin bD rv oin hev hh hf) (TO hh.keys he) (fun o ho=>?_),h⟩
    rcases ho with ho|ho
    ·exact ho
    ·obtain⟨e,he1,rfl⟩:=YM.1 ho
     unfold gm at he1
     rcases Yw.1 he1 with q|q
     ·obtain⟨x,hx,rfl⟩:=YM.1 q
      have hm:x.1∈List.range V.length:=by rw[←hh.keys];exact Ws hx
      have hlt:=List.mem_range.1 hm
      show bk V id x.1∈V
      simp[bk,hlt]
     grind
   obtain⟨bD,ha,h⟩:=bh h
   rw[gO]at h
   obtain⟨rv,os',hf,h⟩:=h
   rcases h with ⟨hfl,rfl,h⟩|⟨V,hV,h⟩
   ·rw[lb]at h
    exact⟨_,_,_,.of<|.call fn args ts f cap ids 8 bD rv hev ha hf hfl,h⟩
   ·obtain⟨U,hU,h⟩:=bh h
    rw[lb]at h
    exact⟨_,_,_,.of<|.mB fn args ts f cap V 8 bD rv os' U hev hV hf hU,h⟩
  simp_all
 ·rcases h with h|⟨k,z,cs,hb,hk,h⟩
  ·exact pv h
  ·exact⟨_,_,_,.of<|.files _ _ _ _ (.lJ _ _ cs k z hb hk),h⟩
 ·exact bv h
 ·rcases fH h with ⟨_,h⟩|⟨_,h⟩
  ·obtain⟨v,U,RO,h1,h2⟩:=xD h
   exact⟨v,U,RO,.of<|.files _ v U RO h1,h2⟩
  ·rcases fH h with ⟨_,h⟩|⟨_,h⟩
   all_goals simp_all
 ·exact bv h
 ·rcases h with h|h
  ·exact bv h
  ·obtain⟨v,U,RO,h1,h2⟩:=xD h
   exact⟨v,U,RO,.of<|.files _ v U RO h1,h2⟩
 ·rename_i t
  rcases h with h|h
  ·exact bv h
  ·obtain⟨hc,h⟩:=gR h
   rcases h.h with ⟨z,h⟩|h
   ·exact⟨_,_,_,.of<|.files _ _ _ _ (.mk t z hc),h⟩
   ·exact⟨_,_,_,.of<|.jr _ _ _ _ (.mk t hc),h⟩
 ·exact bv h
 ·exact fv h
 ·exact fv h
 ·exact fv h
 ·exact bv h
 ·obtain⟨v,U,RO,h1,h2⟩:=xD h
  exact⟨v,U,RO,.of<|.files _ v U RO h1,h2⟩
 ·obtain⟨v,U,RO,h1,h2⟩:=xD h
  exact⟨v,U,RO,.of<|.files _ v U RO h1,h2⟩
 ·obtain⟨v,U,RO,h1,h2⟩:=xD h
  exact⟨v,U,RO,.of<|.files _ v U RO h1,h2⟩
 grind
def oQ(N:Sl):List Oper→Bool
 | []=>true
 |o::r=>(match o.dst with|some d=>(decide (N.lo≤d)&&decide (d<N.n))|none=>true)&&!xC o.op&&oQ N r
abbrev Lg:=List (List Nat×List Nat)
def jW(log:Lg):Log:=fun k=>log.reverse.getD k ([],[])
def jk(P:Program)(G:db)(ops:Array Oper)(nb:Nat):List Oper→Nat→Tm→Os→Lg→(Tm→Os→Lg→Prop)→Prop
 | [],_,g,os,log,K=>K g os log
 |o::r,i,g,os,log,K=>
  let go:Tm→Prop:=fun g=>fN (nb+i*W) fun id=>Cl P G (gD G (bX g)) (lk os) (os.map (·.1)) id o.type o.op fun v U RO=>vN os U fun os=>
   match o.dst with
   |some d=>jk P G ops nb r (i+1) ((d,v)::g) os ((U.map (·.1),RO)::log) K
   |none=>jk P G ops nb r (i+1) g os ((U.map (·.1),RO)::log) K
  let no:Tm→Prop:=fun g=>
   match o.dst with
   |some d=>jk P G ops nb r (i+1) ((d,.bN [])::g) os (([],[])::log) K
   |none=>jk P G ops nb r (i+1) g os (([],[])::log) K
  match o.guard with
  |none=>go g
  |some (j,want)=>match (ops[j]?).bind (·.dst)with
   |some d=>match bX g d with
    |.bool b=>sR b (match want with|true=>go ((d,.bool true)::g)|false=>no ((d,.bool true)::g))
     (match want with|true=>no ((d,.bool false)::g)|false=>go ((d,.bool false)::g))
    |.bN _=>no g
    |_=>False
   |none=>False
theorem DT{g:Tm}{d:Nat}{b:Bool}(h:bX g d=.bool b):bX ((d,.bool b)::g)=bX g:=by
 funext t
 simp only[bX];simp_all
theorem RB{P:Program}{G:db}{N:Sl}{ops:Array Oper}{nb:Nat}:∀(l:List Oper) (i:Nat) (g:Tm) (os:Os) (log:Lg) (K:Tm→Os→Lg→Prop),
 (∀(k:Nat) o,l[k]? =some o→ops[i+k]? =some o)→oQ N l=true→log.length=i→jk P G ops nb l i g os log K→
 ∃g' os' ext,K g' os' (ext++log)∧ext.length=l.length∧∀L:Log,(∀k,i≤k→k<i+l.length→L k=jW (ext++log) k)→
  ew P G N ops nb L (List.range' i l.length) (cz g os) (cz g' os'):=by
 intro l
 induction l with
 |nil=>
  intro i g os log K _ _ _ h
  exact⟨g,os,[],h,rfl,fun L _=>.nil _⟩
 |cons o r ih=>
  intro i g os log K hl hdst Fw h
  have ho:ops[i]? =some o:=by simpa using hl 0 o rfl
  simp only[oQ,Y9]at hdst
  have hd:∀d,o.dst=some d→N.lo≤d∧d<N.n:=by
   intro d e
   have:=hdst.1.1
   rw[e]at this;simpa using this
  have hl':∀(k:Nat) o',r[k]? =some o'→ops[i+1+k]? =some o':=by
   intro k o' hk
   have:=hl (k+1) o' (by simp_all)
   rw[show i+1+k=i+(k+1) by omega];exact this
  have tU:∀(x:List Nat×List Nat) (ext:Lg),jW (ext++x::log) i=x:=by
   intro x ext;unfold jW
   rw[W6]
   simp only[List.reverse_append,List.reverse_cons,Yq]
   rw[Yf (by grind)]
   simp[Fw]
  have go:∀g0:Tm,bX g0=bX g→fW ops (bX g) o=some true→
   (fN (nb+i*W) fun id=>Cl P G (gD G (bX g0)) (lk os) (os.map (·.1)) id o.type o.op fun v U RO=>vN os U fun os=>
    match o.dst with
    |some d=>jk P G ops nb r (i+1) ((d,v)::g0) os ((U.map (·.1),RO)::log) K
    |none=>jk P G ops nb r (i+1) g0 os ((U.map (·.1),RO)::log) K)→
   ∃g' os' ext,K g' os' (ext++log)∧ext.length=(o::r).length∧∀L:Log,(∀k,i≤k→k<i+(o::r).length→L k=jW (ext++log) k)→
    ew P G N ops nb L (List.range' i (o::r).length) (cz g os) (cz g' os'):=by
   intro g0 hg0 hw hx;rw[kZ]at hx
   obtain⟨v,U,RO,hA,hK⟩:=QQ hx
   rw[Gs]at hK;rw[hg0]at hA
   have hK':jk P G ops nb r (i+1) (match o.dst with|some d=>(d,v)::g0|none=>g0) (gy os U) ((U.map (·.1),RO)::log) K:=by
    cases OP:o.dst with
    |none=>simp_all
    |some d=>simp_all
   obtain⟨g',os',ext,h1,h2,h3⟩:=ih (i+1) _ _ _ K hl' hdst.2 (by grind) hK'
   refine⟨g',os',ext++[(U.map (·.1),RO)],by simp_all,by simp[h2],fun L hL=>?_⟩
   rw[Ye,List.range'_succ]
   have Ai:=hL i (Yg _) (by simp)
   rw[show ext++[(U.map (·.1),RO)]++log=ext++(U.map (·.1),RO)::log by simp,tU]at Ai
   refine .cons i _ _ _ _ (.run o v U RO ho hw hA hd Ai) ?_
   have:=h3 L (fun k hk1 hk2=>by
    grind)
   have e:(cz g os).eO o.dst v U=cz (match o.dst with|some d=>(d,v)::g0|none=>g0) (gy os U):=by
    rw[Kz];unfold cz;congr 1
    cases o.dst with
    |none=>simp_all
    |some d=>funext t;simp only[bX];rw[hg0]
   rw[e];exact this
  have no:∀g0:Tm,bX g0=bX g→fW ops (bX g) o=some false→
   (match o.dst with
    |some d=>jk P G ops nb r (i+1) ((d,.bN [])::g0) os (([],[])::log) K
    |none=>jk P G ops nb r (i+1) g0 os (([],[])::log) K)→
   ∃g' os' ext,K g' os' (ext++log)∧ext.length=(o::r).length∧∀L:Log,(∀k,i≤k→k<i+(o::r).length→L k=jW (ext++log) k)→
    ew P G N ops nb L (List.range' i (o::r).length) (cz g os) (cz g' os'):=by
   intro g0 hg0 hw hK
   have hK':jk P G ops nb r (i+1) (match o.dst with|some d=>(d,.bN [])::g0|none=>g0) os (([],[])::log) K:=by
    cases OP:o.dst with
    |none=>simp_all
    |some d=>simp_all
   obtain⟨g',os',ext,h1,h2,h3⟩:=ih (i+1) _ _ _ K hl' hdst.2 (by grind) hK'
   refine⟨g',os',ext++[([],[])],by simp_all,by simp[h2],fun L hL=>?_⟩
   rw[Ye,List.range'_succ]
   have Ai:=hL i (Yg _) (by simp)
   rw[show ext++[(([]:List Nat),([]:List Nat))]++log=ext++([],[])::log by simp,tU]at Ai
   refine .cons i _ _ _ _ (.skip o ho hw hd Ai) ?_
   have:=h3 L (fun k hk1 hk2=>by
    grind)
   have e:(cz g os).eO o.dst (.bN []) []=cz (match o.dst with|some d=>(d,.bN [])::g0|none=>g0) os:=by
    rw[Kz];unfold cz;congr 1
    cases o.dst with
    |none=>simp_all
    |some d=>funext t;simp only[bX];rw[hg0]
   rw[e];exact this
  simp only[jk]at h
  cases hg:o.guard with
  |none=>
   rw[hg]at h
   exact go g rfl (by unfold fW;rw[hg]) h
  |some jw=>
   obtain⟨j,want⟩:=jw
   rw[hg]at h;simp only at h
   cases hb:(ops[j]?).bind (·.dst)with
   |none=>simp_all
   |some d=>
    rw[hb]at h;simp only at h;split at h
    ·rename_i b xt
     have mc:fW ops (bX g) o=some (b==want):=by unfold fW;rw[hg];simp only[hb,xt]
     rcases fH h with ⟨hbb,h'⟩|⟨hbb,h'⟩
     ·subst hbb
      cases want with
      |true=>exact go _ (DT xt) mc h'
      |false=>exact no _ (DT xt) mc h'
     ·subst hbb
      cases want with
      |true=>exact no _ (DT xt) mc h'
      |false=>exact go _ (DT xt) mc h'
    ·rename_i vs xt
     exact no g rfl (by unfold fW;simp_all) h
    simp_all
inductive r8 where
 |code (c:Code)
 |bd (id:Nat)
 |stop (κ:Tm→Os→Nat→Prop)
def ju(id:Nat):List r8→Option (List r8)
 | []=>none
 |.bd i::k=>if id=i then some k else ju id k
 |_::k=>ju id k
def ap:List (Nat×Nat)→Nat→Nat
 | [],o=>o
 |(k,x)::r,o=>if o=k then x else ap r o
def jL(m:Nat)(g:Tm)(os:Os)(σ:List (Nat×Nat))(gx:Tm)(osx:Os)(nx:Nat):Prop:=
 (gx.all (fun e=>eS nx e.2)&&osx.all (fun e=>decide (e.1<nx)&&cE nx e.2)&&decide ((osx.map fun e=>ap σ e.1).Nodup)&&decide (m≤nx)&&(List.range m).all (fun j=>ap σ j==j))=true∧
 ep (gx.map fun e=>bX g e.1) (gx.map fun e=>cd (ap σ) e.2)∧
 du (osx.map fun e=>lk os (ap σ e.1)) (osx.map fun e=>some (cC (ap σ) e.2))
structure ra(m:Nat)(g:Tm)(os:Os)(body:(Tm→Os→Nat→Prop)→Tm→Os→Nat→Prop):Prop where
 h:∃(α:Type) (gx:α→Tm) (osx:α→Os) (nx:Nat) (I:α→Prop) (μ:α→Nat) (x0:α) (σ0:List (Nat×Nat)),
  I x0∧jL m g os σ0 (gx x0) (osx x0) nx∧
  ∀x,I x→body (fun g' os' _=>∃x' σ,I x'∧μ x'<μ x∧jL m g' os' σ (gx x') (osx x') nx) (gx x) (osx x) nx
theorem vW{m:Nat}{g:Tm}{os:Os}{body:(Tm→Os→Nat→Prop)→Tm→Os→Nat→Prop}{α:Type}(gx:α→Tm)(osx:α→Os)(nx:Nat)(I:α→Prop)(μ:α→Nat)(x0:α)(σ0:List (Nat×Nat))(hI:I x0)
 (h2:(gx x0).map (fun e=>cd (ap σ0) e.2)=(gx x0).map (fun e=>bX g e.1)) (h3:(osx x0).map (fun e=>some (cC (ap σ0) e.2))=(osx x0).map fun e=>lk os (ap σ0 e.1))
 (h1:((gx x0).all (fun e=>eS nx e.2)&&(osx x0).all (fun e=>decide (e.1<nx)&&cE nx e.2)&&decide (((osx x0).map fun e=>ap σ0 e.1).Nodup)&&decide (m≤nx)&&(List.range m).all (fun j=>ap σ0 j==j))=true)
 (hr:∀x,I x→body (fun g' os' _=>∃x' σ,I x'∧μ x'<μ x∧jL m g' os' σ (gx x') (osx x') nx) (gx x) (osx x) nx):ra m g os body:=
 ⟨α,gx,osx,nx,I,μ,x0,σ0,hI,⟨h1,.of_eq h2,.of_eq h3⟩,hr⟩
theorem uy{m:Nat}{α:Type}{gx:α→Tm}{osx:α→Os}{nx:Nat}{I:α→Prop}{μ:α→Nat}{x:α}{g':Tm}{os':Os}(x':α)(σ:List (Nat×Nat))(hI:I x')(hμ:μ x'<μ x)
 (h2:(gx x').map (fun e=>cd (ap σ) e.2)=(gx x').map (fun e=>bX g' e.1)) (h3:(osx x').map (fun e=>some (cC (ap σ) e.2))=(osx x').map fun e=>lk os' (ap σ e.1))
 (h1:((gx x').all (fun e=>eS nx e.2)&&(osx x').all (fun e=>decide (e.1<nx)&&cE nx e.2)&&decide (((osx x').map fun e=>ap σ e.1).Nodup)&&decide (m≤nx)&&(List.range m).all (fun j=>ap σ j==j))=true):
 ∃x' σ,I x'∧μ x'<μ x∧jL m g' os' σ (gx x') (osx x') nx:=⟨x',σ,hI,hμ,h1,.of_eq h2,.of_eq h3⟩
def GC:List r8→Bool
 | []=>true
 |.stop _::_=>false
 |_::k=>GC k
def Gu(W:World)(v:Value)(zs:List Int):Prop:=
 ∃a cap,v=.slice a zs.length cap∧∀(j:Nat) z,zs[j]? =some z→∃ad:Addr,a=some ad∧ad.spot=none∧W.cell? ⟨ad.block,ad.off+j,none⟩=some (.int .i64 z)
def Gt(P:Program)(f:Nat):Prop:=eF P f=true∧
 ∀(l:Nat) (pa:Addr) (zs:List Int) (J:Nat→World→Prop) (W:World),zs.length≤bm→(∀k W,J k W→∃v,W.cell? pa=some v∧Gu W v zs)→
  (∀(k:Nat) (z:Int) (W:World),zs.reverse[k]? =some z→J k W→YieldAt Fence.wide 0 P l #[.int .i64 ((zs.length-1-k:Nat):Int),.int .i64 z] W fun e W'=>e=.returned (.bool true)∧J (k+1) W')→
  J 0 W→CallsIn Fence.wide 0 P f #[.func (.yield l) #[] #[],.pointer (some pa)] W fun e W'=>(∃v,e=.returned v)∧J zs.length W'
def tD(g:Tm)(p q:Nat)(i z:Int):Tm:=(q,.int .i64 z)::(p,.int .i64 i)::g
structure Gx(P:Program)(N:Sl)(m:Nat)(g:Tm)(os:Os)(nx:Nat)(gv:AV)(ps:List Tmp)(X:Nat→Bool→(Tm→Os→Nat→Prop)→Tm→Os→Nat→Prop)(K:Tm→Os→Nat→Prop):Prop where
 h:∃(fB:Nat) (zs:List Int) (p q lo:Nat) (α:Type) (gx:Tm) (osx:α→Os) (nx':Nat) (I:Nat→α→Prop) (x0:α) (σ0:List (Nat×Nat)),
  Gt P fB∧gv=.fn fB [.rp [.sl (zs.map fun z=>[.int .i64 z])] 0]∧ps=[p,q]∧
  (decide (lo≤p)&&decide (p<N.n)&&decide (lo≤q)&&decide (q<N.n)&&decide (p≠q)&&gx.all (fun e=>decide (e.1<lo)))=true∧
  I 0 x0∧jL m g os σ0 gx (osx x0) nx'∧
  (∀(k:Nat) (z:Int) x,zs.reverse[k]? =some z→I k x→X lo false (fun g1 os1 nx1=>X lo true (fun g2 os2 _=>∃x' σ,I (k+1) x'∧jL m g2 os2 σ gx (osx x') nx') g1 os1 nx1)
   (tD gx p q ((zs.length-1-k:Nat):Int) z) (osx x) nx')∧
  (∀x,I zs.length x→K gx (osx x) nx')
theorem Ks{P:Program}{N:Sl}{m:Nat}{g:Tm}{os:Os}{nx:Nat}{gv:AV}{ps:List Tmp}{X:Nat→Bool→(Tm→Os→Nat→Prop)→Tm→Os→Nat→Prop}{K:Tm→Os→Nat→Prop}
 (fB:Nat) (zs:List Int) (p q lo:Nat) {α:Type} (gx:Tm) (osx:α→Os) (nx':Nat) (I:Nat→α→Prop) (x0:α) (σ0:List (Nat×Nat))
 (hB:Gt P fB) (hgv:gv=.fn fB [.rp [.sl (zs.map fun z=>[.int .i64 z])] 0]) (hps:ps=[p,q])
 (hd:(decide (lo≤p)&&decide (p<N.n)&&decide (lo≤q)&&decide (q<N.n)&&decide (p≠q)&&gx.all (fun e=>decide (e.1<lo)))=true) (hI:I 0 x0)
 (h2:ep (gx.map fun e=>bX g e.1) (gx.map fun e=>cd (ap σ0) e.2)) (h3:du ((osx x0).map fun e=>lk os (ap σ0 e.1)) ((osx x0).map fun e=>some (cC (ap σ0) e.2)))
 (h1:(gx.all (fun e=>eS nx' e.2)&&(osx x0).all (fun e=>decide (e.1<nx')&&cE nx' e.2)&&decide (((osx x0).map fun e=>ap σ0 e.1).Nodup)&&decide (m≤nx')&&(List.range m).all (fun j=>ap σ0 j==j))=true)
 (hr:∀(k:Nat) (z:Int) x,zs.reverse[k]? =some z→I k x→X lo false (fun g1 os1 nx1=>X lo true (fun g2 os2 _=>∃x' σ,I (k+1) x'∧jL m g2 os2 σ gx (osx x') nx') g1 os1 nx1)
  (tD gx p q ((zs.length-1-k:Nat):Int) z) (osx x) nx')
 (hK:∀x,I zs.length x→K gx (osx x) nx'):Gx P N m g os nx gv ps X K:=
 ⟨fB,zs,p,q,lo,α,gx,osx,nx',I,x0,σ0,hB,hgv,hps,hd,hI,⟨h1,h2,h3⟩,hr,hK⟩
structure ov(m:Nat)(body:(Tm→Os→Nat→Prop)→Prop)(K:Tm→Os→Nat→Prop):Prop where
 h:∃(R:Prop) (gx:Tm) (osx:Os) (nx:Nat),body (fun g' os' _=>R∧∃σ,jL m g' os' σ gx osx nx)∧(R→K gx osx nx)
theorem Dg{m:Nat}{body:(Tm→Os→Nat→Prop)→Prop}{K:Tm→Os→Nat→Prop}(R:Prop)(gx:Tm)(osx:Os)(nx:Nat)
 (hb:body (fun g' os' _=>R∧∃σ,jL m g' os' σ gx osx nx)) (hk:R→K gx osx nx):ov m body K:=⟨R,gx,osx,nx,hb,hk⟩
theorem nZ{m:Nat}{R:Prop}{gx:Tm}{osx:Os}{nx:Nat}{g':Tm}{os':Os}(hR:R)(σ:List (Nat×Nat))
 (h2:gx.map (fun e=>cd (ap σ) e.2)=gx.map (fun e=>bX g' e.1)) (h3:osx.map (fun e=>some (cC (ap σ) e.2))=osx.map fun e=>lk os' (ap σ e.1))
 (h1:(gx.all (fun e=>eS nx e.2)&&osx.all (fun e=>decide (e.1<nx)&&cE nx e.2)&&decide ((osx.map fun e=>ap σ e.1).Nodup)&&decide (m≤nx)&&(List.range m).all (fun j=>ap σ j==j))=true):
 R∧∃σ,jL m g' os' σ gx osx nx:=⟨hR,σ,h1,.of_eq h2,.of_eq h3⟩
theorem As{m:Nat}{R:Prop}{gx:Tm}{osx:Os}{nx:Nat}{g':Tm}{os':Os}(hR:R)(σ:List (Nat×Nat))
 (h2:ep (gx.map fun e=>bX g' e.1) (gx.map fun e=>cd (ap σ) e.2)) (h3:du (osx.map fun e=>lk os' (ap σ e.1)) (osx.map fun e=>some (cC (ap σ) e.2)))
 (h1:(gx.all (fun e=>eS nx e.2)&&osx.all (fun e=>decide (e.1<nx)&&cE nx e.2)&&decide ((osx.map fun e=>ap σ e.1).Nodup)&&decide (m≤nx)&&(List.range m).all (fun j=>ap σ j==j))=true):
 R∧∃σ,jL m g' os' σ gx osx nx:=⟨hR,σ,h1,h2,h3⟩
def Az(P:Program):Op→Bool
 |.indexAddr t _ (.tmp _)=>match P.underlying t with|some (.array ..)=>true|_=>false
 |.index t _ (.tmp _)=>match P.underlying t with|some (.array ..)=>true|_=>false
 |_=>false
def Rc(P:Program):Code→Bool
 |.cond .. =>true
 |.block .. =>true
 |.region _ ops _=>ops.toList.any fun o=>o.guard.isSome||Az P o.op
 |_=>false
def IQ(j:Bool)(A B:Prop):Prop:=Bool.rec (motive:=fun _=>Prop) A (A∨B) j
theorem y6{j:Bool}{A B:Prop}(h:IQ j A B):A∨B:=by
 cases j
 ·exact .inl h
 ·exact h
def dL(P:Program)(G:db):Sl→Nat→(Tm→Os→Prop)→Nat→List r8→Tm→Os→Nat→Prop
 |_,_,_,0,_,_,_,_=>False
 |_,_,fin,_+1,[],g,os,_=>fin g os
 |N,m,fin,n+1,.bd _::k,g,os,nx=>dL P G N m fin n k g os nx
 |_,_,_,_+1,.stop κ::_,g,os,nx=>κ g os nx
 |N,m,fin,n+1,.code c::k,g,os,nx=>
  IQ (Rc P c) (match c with
  |.skip=>dL P G N m fin n k g os nx
  |.seq a b=>dL P G N m fin n (.code a::.code b::k) g os nx
  |.region _ ops draw=>kf (oQ N ops.toList) (jk P G ops nx ops.toList 0 g os [] fun g os log=>
   match draw with
   |false=>fN (nx+ops.size*W) fun nx=>dL P G N m fin n k g os nx
   |true=>AW ops (jW log)=true∧fN (nx+ops.size*W) fun nx=>dL P G N m fin n k g os nx) False
  |.cond c x y=>match gD G (bX g) c with
   |.bool b=>sR b (dL P G N m fin n (.code x::k) g os nx) (dL P G N m fin n (.code y::k) g os nx)
   |.eh p=>(p→dL P G N m fin n (.code x::k) g os nx)∧dL P G N m fin n (.code y::k) g os nx
   |_=>False
  |.block id c=>dL P G N m fin n (.code c::.bd id::k) g os nx
  |.exit id=>match ju id k with
   |some k'=>dL P G N m fin n k' g os nx
   |none=>False
  |.ret=>fin g os
  |.rangeFunc gop ps assign body=>(!N.no&&GC k)=true∧Gx P N m g os nx (gD G (bX g) gop) ps.toList
   (fun lo b κ g os nx=>dL P G ⟨lo,N.n,true⟩ m (fun _ _=>False) n [.code (bif b then body else assign),.stop κ] g os nx)
   (fun g os nx=>dL P G {N with no:=true} m fin n k g os nx)
  |.loop body=>ra m g os fun κ=>dL P G N m fin n (.code body::.stop κ::k)
  |_=>False) (ov m (fun κ=>dL P G N m fin n (.code c::.stop κ::k) g os nx) (dL P G N m fin n k))
def KQ(P:Program)(C:Cx)(r:Option Nat)(B:Exit→Act→World→Prop):List r8→Exit→Act→World→Prop
 | []=>B
 |.code c::k=>Exit.then (c.wpIn (WF r) 0 P (KQ P C r B k)) (KQ P C r B k)
 |.bd id::k=>Exit.inBlock id (KQ P C r B k)
 |.stop κ::k=>Exit.then (fun a w=>∃g os nx S ι,κ g os nx∧Inv C S ι (fun x=>nx≤x) (cz g os) a w) (KQ P C r B k)
theorem QT{P:Program}{C:Cx}{r:Option Nat}{B:Exit→Act→World→Prop}{id:Nat}:∀{k k':List r8},ju id k=some k'→∀{a:Act} {w:World},KQ P C r B k' .normal a w→KQ P C r B k (.exit id) a w:=by
 intro k
 induction k with
 |nil=>intro k' h;simp[ju]at h
 |cons f k ih=>
  intro k' h a w hq
  cases f with
  |code c=>exact ih (by simpa[ju]using h) hq
  |stop κ=>exact ih (by simpa[ju]using h) hq
  |bd i=>
   simp only[ju]at h;simp only[KQ,Exit.inBlock]
   grind
theorem PU{P:Program}{C:Cx}{r:Option Nat}{B:Exit→Act→World→Prop}:∀{k:List r8} {a:Act} {w:World},B .ret a w→KQ P C r B k .ret a w:=by
 intro k
 induction k with
 |nil=>intro a w h;exact h
 |cons f k ih=>intro a w h;cases f<;>exact ih h
theorem Uk{r:Option Nat}{P:Program}{Q:Exit→Act→World→Prop}{c:Code}(I:Nat→Act→World→Prop)
 (round:∀n a w,I n a w→c.wpIn (WF r) 0 P (Exit.then (fun a' w'=>∃m,m<n∧I m a' w') Q) a w):∀n a w,I n a w→(Code.loop c).wpIn (WF r) 0 P Q a w:=by
 intro n a w hI
 have key:∀n a w,I n a w→∀(b:Frame) (k:List Item) (cs:List Frame),b.roundOf=r→
  ∃e a' w',Q e a' w'∧ArrivesIn (Machine.fenced P (WF r)) P (lone (b.atR a (.code c::.inLoop c::k)) cs w) b k cs e a' w':=by
  intro n
  induction n using Nat.strongRecOn with
  |_ n ih=>
   intro a w hI b k cs Cz
   obtain⟨e,a₁,w₁,hq,mr⟩:=round n a w hI b (.inLoop c::k) cs Cz trivial (y5 _ _)
   cases e with
   |normal=>
    obtain⟨m,hlt,hI₁⟩:=hq
    obtain⟨e₂,a₂,w₂,hq₂,OUr₂⟩:=ih m hlt a₁ w₁ hI₁ b k cs Cz
    exact⟨e₂,a₂,w₂,hq₂,.of_steps (StepsIn.trans mr (.one (fenced_wide P _) stepR_inLoop)) OUr₂⟩
   |exit id=>exact⟨_,a₁,w₁,hq,.pass (x:=.inLoop c) rfl (fun _ _=>.inl (by simp)) mr⟩
   |goto l=>exact⟨_,a₁,w₁,hq,.pass (x:=.inLoop c) rfl (fun _ _=>.inl (by simp)) mr⟩
   |ret=>exact⟨_,a₁,w₁,hq,.pass (x:=.inLoop c) rfl (fun _ _=>.inl (by simp)) mr⟩
   |panic ch=>exact⟨_,a₁,w₁,hq,.pass (x:=.inLoop c) rfl (fun _ _=>.inl (by simp)) mr⟩
   |outgrown=>exact⟨_,a₁,w₁,hq,.pass (x:=.inLoop c) rfl (fun _ _=>.inl (by simp)) mr⟩
 intro b k cs Cz _ _
 obtain⟨e,a',w',hq,mr⟩:=key n a w hI b k cs Cz
 exact⟨e,a',w',hq,.of_steps (.one (fenced_wide P _) stepR_loop) mr⟩
theorem Exit.kQ{r:Option Nat}{P:Program}{c:Code}{N1 N2:Act→World→Prop}{Q:Exit→Act→World→Prop}{a:Act}{w:World}
 (h:c.wpIn (WF r) 0 P (Exit.then N1 Q) a w) (hn:∀a w,N1 a w→N2 a w):c.wpIn (WF r) 0 P (Exit.then N2 Q) a w:=
 wpIn_mono h (fun e a w hq=>by cases e<;>first|exact hn a w hq|exact hq)
theorem LU{N:Sl}:∀{l:List Oper},oQ N l=true→∀o,o∈l→xC o.op=false:=by
 intro l
 induction l with
 |nil=>simp
 |cons x r ih=>
  intro h o ho;simp only[oQ,Y9]at h
  grind
theorem sV:∀{os:Os} {o:Nat} {x:AO},lk os o=some x→(o,x)∈os:=by
 intro os
 induction os with
 |nil=>intro o x h;simp[lk]at h
 |cons e r ih=>
  intro o x h;simp only[lk]at h
  grind
theorem Lf:∀{g:Tm} {t:Nat},bX g t=.undef∨(t,bX g t)∈g:=by
 intro g
 induction g with
 |nil=>intro t;exact .inl rfl
 |cons e r ih=>
  intro t;simp only[bX]
  grind
theorem Km{α:Type}{f g:α→AV}:∀{l:List α},ep (l.map f) (l.map g)→∀x,x∈l→Wk (f x) (g x)
 | [],_,x,hx=>by cases hx
 |a::r,h,x,hx=>by
  cases hx with
  |head=>exact h.1
  |tail _ hx=>exact Km (l:=r) h.2 x hx
theorem KC{α:Type}{f:α→Option AO}{g:α→AO}:∀{l:List α},du (l.map f) (l.map fun e=>some (g e))→∀x,x∈l→∃y,f x=some y∧fT y (g x)
 | [],_,x,hx=>by cases hx
 |a::r,h,x,hx=>by
  cases hf:f a with
  |none=>simp only[Yp,hf,du]at h
  |some y=>
   simp only[Yp,hf,du]at h
   cases hx with
   |head=>simp_all
   |tail _ hx=>exact KC (l:=r) h.2 x hx
theorem S4{α β:Type}{f:α→β}:∀{l:List α},(l.map f).Nodup→∀x y,x∈l→y∈l→f x=f y→x=y:=by
 intro l
 induction l with
 |nil=>simp
 |cons a r ih=>
  grind
theorem Inv.uh{C:Cx}{S:Nat→Prop}{ι:ax}{un:Nat→Prop}{g:Tm}{os:Os}{a:Act}{w:World}(h:Inv C S ι un (cz g os) a w)
 {σ:List (Nat×Nat)} {gx:Tm} {osx:Os} {nx:Nat} (hc:jL C.m g os σ gx osx nx):∃ι',Inv C S ι' (fun x=>nx≤x) (cz gx osx) a w:=by
 obtain⟨hb,hg,ho⟩:=hc
 simp only[Y9,Yx]at hb
 obtain⟨⟨⟨⟨hb1,hb2⟩,pZ⟩,I'⟩,hid⟩:=hb
 have oO:∀o x,lk osx o=some x→(∃y,lk os (ap σ o)=some y∧fT y (cC (ap σ) x))∧o<nx∧cE nx x=true:=by
  intro o x hx
  have hm:=sV hx
  have h1:=KC ho (o,x) hm
  have h2:=YG.1 hb2 (o,x) hm
  simp only[Y9,Yx]at h2;exact⟨h1,h2.1,h2.2⟩
 have kb:∀o,o<nx→∀l,ιback ι (ap σ) nx o=some l→ι (ap σ o)=some l:=by
  intro o ho l hl;simp only[ιback]at hl;rw[if_pos ho]at hl;exact hl
 refine⟨ιback ι (ap σ) nx,?_,h.sz,h.df,?_,?_,?_,h.sb,h.sn,?_,h.fr,h.fo,h.gv,h.s0,fun j L e=>by
  have OB:=C.NV j L e
  have h1:=YG.1 hid j (List.mem_range.2 OB)
  simp only[WZ]at h1;simp only[ιback]
  rw[if_pos (by omega),h1]
  exact h.hj j L e⟩
 ·intro t
  rcases Lf (g:=gx) (t:=t)with hu|hm
  ·show bP S w _ (bX gx t) _
   rw[hu];exact .bI _ _ (.undef _)
  ·have h1:=Km hg _ hm
   simp only at h1
   have h2:=YG.1 hb1 _ hm
   refine bP.eM _ _ h2 ?_
   show bP S w ι (cd (ap σ) (bX gx t)) _
   exact h1.rep _ (h.tm t)
 ·intro o x hx
  obtain⟨⟨y,h1,hw⟩,h2,h3⟩:=oO o x hx
  exact ca.eM h2 h3 (hw.ok (h.ob _ _ h1))
 ·intro o x hx hlv l hl b hbb
  obtain⟨⟨y,h1,hw⟩,h2,h3⟩:=oO o x hx
  exact h.own _ _ h1 (by rw[←hw.live,mE];exact hlv) l (kb o h2 _ hl) b (sY hw hbb)
 ·intro o o' x x' hx hx' hlv vw l l' hl hl' b hbl vE
  obtain⟨⟨y,h1,hw⟩,h2,h3⟩:=oO o x hx
  obtain⟨⟨y',h1',hw'⟩,vM,CN⟩:=oO o' x' hx'
  have:=h.inj _ _ _ _ h1 h1' (by rw[←hw.live,mE];exact hlv) (by rw[←hw'.live,mE];exact vw) l l' (kb o h2 _ hl) (kb o' vM _ hl') b (sY hw hbl) (sY hw' vE)
  have:=S4 pZ (o,x) (o',x') (sV hx) (sV hx') this
  simp_all
 ·intro o hn
  simp only[ιback]
  grind
theorem Uu(n:Nat):List.range' 0 n=List.range n:=by rw[List.range_eq_range']
end Go.Ab
