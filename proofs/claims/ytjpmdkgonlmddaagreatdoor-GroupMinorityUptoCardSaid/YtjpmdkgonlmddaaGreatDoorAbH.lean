import Derived.Test.YtjpmdkgonlmddaaGreatDoorAbG
import Derived.RangeFuncSeq
set_option linter.unusedVariables false
namespace Go.Ab
def bndX(ev:Operand→AV)(o:Option Operand)(d:Nat)(K:Nat→Prop):Prop:=
 match o with
 |none=>K d
 |some x=>match ev x with
  |.int _ i=>0≤i∧K i.toNat
  |_=>False
def cut{α:Type}(lo hi:Option Operand)(xs:List α)(a b:Nat):List α:=
 match lo,hi with
 |none,none=>xs
 |none,some _=>xs.take b
 |some _,none=>xs.drop a
 |some _,some _=>(xs.take b).drop a
theorem Zi0{ev:Operand→AV}{o:Option Operand}{d:Nat}{K:Nat→Prop}(h:bndX ev o d K):∃n,bndP ev o d n∧K n:=by
 unfold bndX at h;split at h
 ·exact⟨d,rfl,h⟩
 ·rename_i x
  split at h
  ·rename_i k i e
   exact⟨i.toNat,⟨k,i,e,h.1,rfl⟩,h.2⟩
  simp_all
theorem ZrP{α:Type}{ev:Operand→AV}{lo hi:Option Operand}{xs:List α}{a b:Nat}(ha:bndP ev lo 0 a)(hb:bndP ev hi xs.length b):cut lo hi xs a b=(xs.take b).drop a:=by
 unfold cut;split
 ·simp only[bndP]at ha hb;simp_all
 ·simp only[bndP]at ha;simp_all
 ·simp only[bndP]at hb;simp_all
 ·rfl
def ZaF(n:Nat)(rs:List (List AV)):Prop:=∀r,r∈rs→r.length=n
theorem ZaF.nil{n:Nat}:ZaF n []:=fun r h=>by cases h
theorem ZaF.cons{n:Nat}{r:List AV}{rs:List (List AV)}(h:r.length=n)(hr:ZaF n rs):ZaF n (r::rs):=fun x hx=>by
 rcases Yj.1 hx with rfl|hx
 ·exact h
 ·exact hr x hx
theorem ZaF.map{α:Type}{n:Nat}{f:α→List AV}{l:List α}(h:∀x,(f x).length=n):ZaF n (l.map f):=fun r hr=>by
 grind
theorem ZaF.append{n:Nat}{rs qs:List (List AV)}(h:ZaF n rs)(h':ZaF n qs):ZaF n (rs++qs):=fun r hr=>by
 rcases Yy.1 hr with hr|hr
 ·exact h r hr
 ·exact h' r hr
def xfind(P:Program)(kt:TypeId)(k:AV):List (AV×AV)→Nat→(Option Nat→Prop)→Prop
 | [],_,K=>K none
 |e::es,i,K=>match keyEq P kt k e.1 with
  |some b=>brc b (K (some i)) (xfind P kt k es (i+1) K)
  |none=>False
theorem ZmJ{P:Program}{kt:TypeId}{k:AV}:∀{es:List (AV×AV)} {i:Nat} {K:Option Nat→Prop},xfind P kt k es i K→∃r,ZbR P kt k es i r∧K r:=by
 intro es
 induction es with
 |nil=>intro i K h;exact⟨none,rfl,h⟩
 |cons e es ih=>
  intro i K h;simp only[xfind]at h;split at h
  ·rename_i b hb
   rcases brn_e h with ⟨rfl,h⟩|⟨rfl,h⟩
   ·exact⟨some i,.inl ⟨hb,rfl⟩,h⟩
   ·obtain⟨r,h1,h2⟩:=ih h
    exact⟨r,.inr ⟨hb,h1⟩,h2⟩
  simp_all
def fE:List (AV×AV)→(List (AV×AV)→Prop)→Prop
 | [],K=>K []
 |e::r,K=>fAV e.1 fun a=>fAV e.2 fun b=>fE r fun r=>K ((a,b)::r)
theorem fE_eq:∀(l:List (AV×AV)) (K:List (AV×AV)→Prop),fE l K=K l
 | [],K=>rfl
 |e::r,K=>by simp only[fE];rw[Ze2,Ze2,fE_eq]
def ZoE(P:Program)(t:TypeId)(es:List (AV×AV))(r:Option Nat)(K:AV→Bool→Prop):Prop:=
 Option.rec (motive:=fun _=>Prop) (opt (valT P t) fun vt=>opt (zeroV P vt) fun v=>fAV v fun v=>K v false) (fun i=>opt (es[i]?) fun e=>fAV e.2 fun v=>K v true) r
def fM(p:Bool)(es:List (AV×AV))(K:AO→Prop):Prop:=
 Bool.rec (motive:=fun _=>Prop) (fE es fun es=>K (.mapo false es)) (fE es fun es=>K (.mapo true es)) p
theorem fM_eq(p:Bool)(es:List (AV×AV))(K:AO→Prop):fM p es K=K (.mapo p es):=by
 cases p<;>(simp only[fM];rw[fE_eq])
def encM{κ ν:Type}(ek:κ→AV)(en:ν→AV)(L:List (κ×ν)):List (AV×AV):=L.map fun p=>(ek p.1,en p.2)
def mget{κ ν:Type}[DecidableEq κ](q:κ):List (κ×ν)→Option ν
 | []=>none
 |e::r=>if q=e.1 then some e.2 else mget q r
def mput{κ ν:Type}[DecidableEq κ](q:κ)(x:ν):List (κ×ν)→List (κ×ν)
 | []=>[(q,x)]
 |e::r=>if q=e.1 then(q,x)::r else e::mput q x r
def mix{κ ν:Type}[DecidableEq κ](q:κ):List (κ×ν)→Option Nat
 | []=>none
 |e::r=>if q=e.1 then some 0 else(mix q r).map (· +1)
structure MPut(P:Program)(kt:TypeId)(es:List (AV×AV))(k v:AV)(p:Bool)(K:AO→Prop):Prop where
 h:∃r v',Wk v v'∧ZbR P kt k es 0 r∧es.length+1≤LIM∧K (.mapo (p&&ZhK v') (putE es r k v'))
structure MLook(P:Program)(t kt:TypeId)(es:List (AV×AV))(k:AV)(K:AV→Bool→Prop):Prop where
 h:∃(r:Option Nat) (v:AV),ZbR P kt k es 0 r∧((∃i e,r=some i∧es[i]? =some e∧v=e.2)∨(r=none∧∃vt zv,valT P t=some vt∧zeroV P vt=some zv∧Wk zv v))∧K v r.isSome
structure FLook(P:Program)(t kt:TypeId)(ok:Bool)(k:AV)(o z:Nat)(fs:List (AV×List (List AV)))(h:Option (Nat×Nat))(id:Nat)(K:AV→List (Nat×Option AO)→List Nat→Prop):Prop where
 h:(∃i e,h=none∧ZbR P kt k (keysF fs) 0 (some i)∧fs[i]? =some e∧K (if ok then .tup [.osw id z,.bool true]else .osw id z) [(id,some (.rows true e.2)),(o,some (.fmap z fs (some (i,id))))] [])∨
  (∃r,ok=true∧ZbR P kt k (keysF fs) 0 r∧(∃vt zv,valT P t=some vt∧zeroV P vt=some zv)∧K (.tup [.undef,.bool r.isSome]) [] [o])∨
  (∃v,ZbR P kt k (keysF fs) 0 none∧(∃vt zv,valT P t=some vt∧zeroV P vt=some zv∧Wk zv v)∧K (if ok then .tup [v,.bool false]else v) [] [o])
structure FPut(P:Program)(kt:TypeId)(k v:AV)(o z:Nat)(fs:List (AV×List (List AV)))(h:Option (Nat×Nat))(ol:Nat→Option AO)(K:List (Nat×Option AO)→Prop):Prop where
 h:∃r q rs,ZbR P kt k (keysF fs) 0 r∧ZnN h r∧fs.length+1≤LIM∧v=.osw q z∧ol q=some (.rows true rs)∧(∀row,row∈rs→row.length=z)∧0<z∧q≠o∧
  K [(o,some (.fmap z (putF fs r k rs) none)),(q,none)]
structure FDel(P:Program)(kt:TypeId)(k:AV)(o z:Nat)(fs:List (AV×List (List AV)))(h:Option (Nat×Nat))(K:List (Nat×Option AO)→Prop):Prop where
 h:∃r,ZbR P kt k (keysF fs) 0 r∧ZnN h r∧K [(o,some (.fmap z (delF fs r) none))]
structure FMk(id:Nat)(K:AV→List (Nat×Option AO)→List Nat→Prop):Prop where
 h:(∃z,K (.mapo id) [(id,some (.fmap z [] none))] [])∨K (.mapo id) [(id,some (.gmap [] none))] []
structure GLook(P:Program)(t kt:TypeId)(ok:Bool)(k:AV)(o:Nat)(es:List (AV×Gr))(h:Option (Nat×Nat))(id:Nat)(K:AV→List (Nat×Option AO)→List Nat→Prop):Prop where
 h:(∃i e,h=none∧ZbR P kt k (keysG es) 0 (some i)∧es[i]? =some e∧e.2.length≤W∧K (if ok then .tup [.ptr id 0 0,.bool true]else .ptr id 0 0) (ZgN id (grO 0 e.2)++[(o,some (.gmap es (some (i,id))))]) [])∨
  (∃i q,h=some (i,q)∧ZbR P kt k (keysG es) 0 (some i)∧K (if ok then .tup [.ptr q 0 0,.bool true]else .ptr q 0 0) [] [o])∨
  (∃v,ZbR P kt k (keysG es) 0 none∧(∃vt zv,valT P t=some vt∧zeroV P vt=some zv∧Wk zv v)∧K (if ok then .tup [v,.bool false]else v) [] [o])
structure GPut(P:Program)(kt:TypeId)(k v:AV)(o:Nat)(es:List (AV×Gr))(h:Option (Nat×Nat))(K:List (Nat×Option AO)→Prop):Prop where
 h:∃q g0,h=none∧ZbR P kt k (keysG es) 0 none∧es.length+1≤LIM∧v=.ptr q 0 0∧K [(o,some (.gmap (es++[(k,g0)]) (some (es.length,q))))]
structure MDel(P:Program)(kt:TypeId)(es:List (AV×AV))(k:AV)(p:Bool)(K:AO→Prop):Prop where
 h:∃r,ZbR P kt k es 0 r∧K (.mapo p (delE es r))
structure CutX(P:Program)(ev:Operand→AV)(ol:Nat→Option AO)(id o z sz:Nat)(lo hi:Option Operand)(K:AV→List (Nat×Option AO)→List Nat→Prop):Prop where
 h:∃rs hi',lo=none∧hi=some hi'∧ol o=some (.rows true rs)∧z=sz∧bndX ev (some hi') rs.length fun b=>b≤rs.length∧K (.osw id z) [(id,some (.rows true (rs.take b))),(o,none)] []
section
variable {P:Program}{t kt:TypeId}{κ ν:Type}[DecidableEq κ]{ek:κ→AV}{en:ν→AV}
theorem Zh5(heq:∀a b,keyEq P kt (ek a) (ek b)=some (decide (a=b)))(q:κ):∀(L:List (κ×ν)) (i:Nat),ZbR P kt (ek q) (encM ek en L) i ((mix q L).map (· +i))
 | [],i=>rfl
 |e::r,i=>by
  simp only[encM,Yp,ZbR,mix,heq]
  by_cases h:q=e.1
  ·simp_all
  ·right
   simp only[h,Y9,Option.map_map,decide_false,true_and]
   have:=Zh5 heq q r (i+1)
   rw[show((fun x=>x+i)∘(fun x=>x+1))=(fun x:Nat=>x+(i+1)) by grind]
   exact this
theorem ZhI(q:κ):∀(L:List (κ×ν)),(mix q L=none∧mget q L=none)∨∃j e,mix q L=some j∧L[j]? =some e∧mget q L=some e.2
 | []=>.inl ⟨rfl,rfl⟩
 |e::r=>by
  by_cases h:q=e.1
  ·exact .inr ⟨0,e,by simp[mix,h],rfl,by simp[mget,h]⟩
  ·rcases ZhI q r with ⟨h1,h2⟩|⟨j,e',h1,h2,h3⟩
   ·exact .inl ⟨by simp[mix,h,h1],by simp[mget,h,h2]⟩
   ·exact .inr ⟨j+1,e',by simp[mix,h,h1],by simp_all,by simp[mget,h,h3]⟩
theorem Zpf(q:κ)(x:ν):∀(L:List (κ×ν)),putE (encM ek en L) (mix q L) (ek q) (en x)=encM ek en (mput q x L)
 | []=>rfl
 |e::r=>by
  by_cases h:q=e.1
  ·simp[mix,h,putE,encM,mput]
  ·have:=Zpf q x r
   simp only[mix,h,Y9,mput]
   cases hm:mix q r with
   |none=>rw[hm]at this;simp only[putE,Option.map_none,encM,Yp,YH]at this⊢;rw[this]
   |some j=>rw[hm]at this;simp only[putE,Yq,encM,Yp,List.modify_succ_cons]at this⊢;rw[this]
theorem Zs6{es:List (AV×AV)}{k v:AV}{p:Bool}{K:AO→Prop}(L:List (κ×ν))(q:κ)(x:ν)(hes:es=encM ek en L)(hk:k=ek q)(hv:Wk v (en x))(hp:(p&&ZhK (en x))=true)
 (heq:∀a b,keyEq P kt (ek a) (ek b)=some (decide (a=b))) (hl:L.length+1≤LIM) (hK:K (.mapo true (encM ek en (mput q x L)))):MPut P kt es k v p K:=by
 subst hes;subst hk
 have h1:=Zh5 (en:=en) heq q L 0
 rw[show(fun x:Nat=>x+0)=id from rfl,Vk,id]at h1
 exact⟨_,en x,hv,h1,by simpa[encM]using hl,by rw[Zpf,hp];exact hK⟩
theorem Zsp{es:List (AV×AV)}{k:AV}{K:AV→Bool→Prop}(L:List (κ×ν))(q:κ)(z:ν)(hes:es=encM ek en L)(hk:k=ek q)
 (heq:∀a b,keyEq P kt (ek a) (ek b)=some (decide (a=b))) (hz:∃vt zv,valT P t=some vt∧zeroV P vt=some zv∧Wk zv (en z))
 (hK:K (en ((mget q L).getD z)) (mget q L).isSome):MLook P t kt es k K:=by
 subst hes;subst hk
 have h1:=Zh5 (en:=en) heq q L 0
 rw[show(fun x:Nat=>x+0)=id from rfl,Vk,id]at h1
 rcases ZhI q L with ⟨h2,h3⟩|⟨j,e,h2,h3,h4⟩
 ·rw[h3]at hK;rw[h2]at h1
  exact⟨none,_,h1,.inr ⟨rfl,hz⟩,hK⟩
 ·rw[h4]at hK;rw[h2]at h1
  exact⟨some j,_,h1,.inl ⟨j,(ek e.1,en e.2),rfl,by simp[encM,h3],rfl⟩,hK⟩
theorem bq{α:Type}[DecidableEq α](a b:α):(a==b)=decide (a=b):=by
 rfl
theorem ZcC{k q:IntKind}(h:P.underlying kt=some (.int k))(a b:Int):keyEq P kt (.int q a) (.int q b)=some (decide (a=b)):=by
 simp only[keyEq,h];rfl
theorem ZeI(h:P.underlying kt=some .string)(a b:List UInt8):keyEq P kt (.str a) (.str b)=some (decide (a=b)):=by
 simp only[keyEq,h]
 grind
theorem Zlv{fs:Array Field}(h:P.underlying kt=some (.struct fs))(q r:IntKind)(a b a' b':Int):
 keyEq P kt (.agg [.int q a,.int r b]) (.agg [.int q a',.int r b'])=some (decide (a=a'∧b=b')):=by
 simp only[keyEq,h];simp[bq]
end
def ZoD(P:Program)(ev:Operand→AV)(ol:Nat→Option AO)(id:Nat)(t:TypeId)(x:Operand)(lo hi:Option Operand)(K:AV→List (Nat×Option AO)→List Nat→Prop):Prop:=
 match ev x with
 |.str l=>match P.underlying t with
  |some .string=>bndX ev lo 0 fun a=>bndX ev hi l.length fun b=>a≤b∧b≤l.length∧K (.str (cut lo hi l a b)) [] []
  |_=>False
 |.sl xs=>opt (rowT P t) fun sz=>(match lo with|none=>True|some _=>ZaF sz xs)∧bndX ev lo 0 fun a=>bndX ev hi xs.length fun b=>a≤b∧b≤xs.length∧K (.sl (cut lo hi xs a b)) [] []
 |.osw o z=>opt (rowT P t) fun sz=>opt (rowsR ol o) fun rs=>ZaF sz rs∧((bndX ev lo 0 fun a=>bndX ev hi rs.length fun b=>a≤b∧b≤rs.length∧K (.osl o a (b-a) (rs.length-a)) [] [o])∨CutX P ev ol id o z sz lo hi K)
 |.osl o off len room=>opt (rowT P t) fun sz=>opt (rowsR ol o) fun rs=>ZaF sz rs∧off+room≤rs.length∧bndX ev lo 0 fun a=>bndX ev hi len fun b=>a≤b∧b≤len∧K (.osl o (off+a) (b-a) (room-a)) [] [o]
 |_=>False
def ZoF(P:Program)(ev:Operand→AV)(ol:Nat→Option AO)(id:Nat)(t tx:TypeId)(s x:Operand)(K:AV→List (Nat×Option AO)→List Nat→Prop):Prop:=
 match ev s with
 |.esl=>opt (listA ol (ev x)) fun q=>opt (rowT P t) fun sz=>brn (listT P tx) (ZaF sz q.2.1∧q.2.1.length≤LIM∧fU q.1 q.2.1 fun y=>K (.osw id sz) [(id,some y)] q.2.2) False
 |.osw o z=>match ol o with
  |some (.rows p rs)=>opt (listA ol (ev x)) fun q=>opt (rowT P t) fun sz=>brn (listT P tx&&decide (z=sz)) (ZaF sz q.2.1∧ZaF sz rs∧rs.length+q.2.1.length≤LIM∧
   fU (p&&q.1) (rs++q.2.1) fun y=>K (.osw id sz) [(id,some y),(o,none)] q.2.2) False
  |_=>False
 |_=>False
def xopB(P:Program)(ev:Operand→AV)(ol:Nat→Option AO)(id:Nat)(op:Op)(K:AV→List (Nat×Option AO)→List Nat→Prop):Prop:=
 match op with
 |.slice t x lo hi none=>ZoD P ev ol id t x lo hi K
 |.slice t x none (some h) (some m)=>match ev h,ev m with
  |.int _ h,.int _ m=>match ev x with
   |.str _=>False
   |y=>opt (rowT P t) fun _=>opt (listA ol y) fun q=>brn (decide (h=0)&&decide (m=0)) (K .esl [] q.2.2) False
  |_,_=>False
 |.makeSlice t l c=>match ev l,ev c with
  |.int _ n,.int _ m=>opt (rowT P t) fun sz=>opt (zeroE P t) fun z=>fL z fun z=>0≤n∧n≤m∧m≤LIM∧K (.osw id sz) [(id,some (.rows true (List.replicate n.toNat z)))] []
  |_,_=>False
 |.buildSlice t len parts=>opt (rowT P t) fun sz=>opt (zeroE P t) fun z=>opt (fillA ev (fun i=>some (i*sz,sz)) parts.toList (List.replicate len z).flatten) fun cs=>fL cs fun cs=>
  brn (decide (len*sz≤16777216)&&decide (len≤LIM)&&decide (cs.length=len*sz)&&cs.all Zee) (fU (cs.all Zb8) (chunk sz len cs) fun y=>K (.osw id sz) [(id,some y)] []) False
 |.convert s d x=>match ev x with
  |.str l=>brn (Zii P s d) (l.length≤LIM∧K (.osw id 1) [(id,some (.rows true (enc8 l)))] []) False
  |y=>opt (listA ol y) fun q=>brn (Zii P d s) (∃l,q.2.1=enc8 l∧K (.str l) [] q.2.2) False
 |.makeMap t none=>brn (keyT P t).isSome (K (.mapo id) [(id,some (.mapo true []))] []) False
 |.makeMap t (some x)=>match ev x with
  |.int _ _=>brn (keyT P t).isSome (K (.mapo id) [(id,some (.mapo true []))] []) False
  |_=>False
 |.mapUpdate t m k x=>match ev m with
  |.mapo o=>match ol o with
   |some (.mapo p es)=>opt (keyT P t) fun kt=>keyOk P kt (ev k)=true∧((xfind P kt (ev k) es 0 fun r=>es.length+1≤LIM∧fM (p&&ZhK (ev x)) (putE es r (ev k) (ev x)) fun y=>K .undef [(o,some y)] [])∨
    MPut P kt es (ev k) (ev x) p fun y=>K .undef [(o,some y)] [])
   |_=>False
  |_=>False
 |.insert t m k x=>match ev m with
  |.mapo o=>match ol o with
   |some (.mapo p es)=>opt (keyT P t) fun kt=>keyOk P kt (ev k)=true∧((xfind P kt (ev k) es 0 fun r=>es.length+1≤LIM∧fM (p&&ZhK (ev x)) (putE es r (ev k) (ev x)) fun y=>K .undef [(o,some y)] [])∨
    MPut P kt es (ev k) (ev x) p fun y=>K .undef [(o,some y)] [])
   |_=>False
  |_=>False
 |.lookup t m k ok=>match ev m with
  |.mapo o=>match ol o with
   |some (.mapo _ es)=>opt (keyT P t) fun kt=>keyOk P kt (ev k)=true∧((xfind P kt (ev k) es 0 fun r=>ZoE P t es r fun v fd=>match ok with|true=>K (.tup [v,.bool fd]) [] [o]|false=>K v [] [o])∨
    MLook P t kt es (ev k) fun v fd=>match ok with|true=>K (.tup [v,.bool fd]) [] [o]|false=>K v [] [o])
   |_=>False
  |.con (.map none)=>opt (keyT P t) fun kt=>keyOk P kt (ev k)=true∧(opt (valT P t) fun vt=>opt (zeroV P vt) fun v=>fAV v fun v=>match ok with|true=>K (.tup [v,.bool false]) [] []|false=>K v [] [])
  |_=>False
 |.call {callee:=.builtin .append,args,argTypes}=>match args.toList,argTypes.toList with
  | [s,x],[t,tx]=>ZoF P ev ol id t tx s x K
  |_,_=>False
 |_=>False
def isF(ev:Operand→AV)(ol:Nat→Option AO)(m:Operand):Bool:=
 match ev m with
 |.mapo o=>(match ol o with|some (.fmap ..)=>true|_=>false)
 |_=>false
def orF(b:Bool)(A B:Prop):Prop:=Bool.rec (motive:=fun _=>Prop) B A b
theorem orF_e{b:Bool}{A B:Prop}(h:orF b A B):A∨B:=by
 cases b
 ·exact .inr h
 ·exact .inl h
def toLit:AO→AO
 |.rows _ rs=>.lit rs
 |x=>x
def LitX(A:Prop):Prop:=A
structure ZrU(P:Program)(t:TypeId)(id:Nat)(K:AV→List (Nat×Option AO)→List Nat→Prop):Prop where
 h:∃k z cs,zeroA P t=some cs∧cs[k]? =some AV.esl∧K (.ptr id 0 0) [(id,some (.rows false [setAt cs k [.osw (id+1) z]])),(id+1,some (.rows true []))] []
structure BoxV(v:AV)(t:TypeId)(id:Nat)(K:AV→List (Nat×Option AO)→List Nat→Prop):Prop where
 h:∃k z cs,ZbE v=some cs∧cs[k]? =some AV.esl∧K (.ptr id 0 0) [(id,some (.rows false [setAt cs k [.osw (id+1) z]])),(id+1,some (.rows true []))] []
structure ZrT(P:Program)(ev:Operand→AV)(t:TypeId)(ps:Array (Nat×Operand))(id:Nat)(K:AV→List (Nat×Option AO)→List Nat→Prop):Prop where
 h:∃k z cs,Zkp P ev t ps=some (.agg cs)∧cs[k]? =some AV.esl∧K (.agg (setAt cs k [.osw id z])) [(id,some (.rows true []))] []
theorem ZiZ{P:Program}{ev:Operand→AV}{t:TypeId}{ps:Array (Nat×Operand)}{id:Nat}{K:AV→List (Nat×Option AO)→List Nat→Prop}(k z:Nat)(cs:List AV)(hb:Zkp P ev t ps=some (.agg cs))(hk:cs[k]? =some AV.esl)
 (h:K (.agg (setAt cs k [.osw id z])) [(id,some (.rows true []))] []):ZrT P ev t ps id K:=⟨k,z,cs,hb,hk,h⟩
theorem ZrR{v:AV}{t:TypeId}{id:Nat}{K:AV→List (Nat×Option AO)→List Nat→Prop}(k z:Nat)(cs:List AV)(hz:ZbE v=some cs)(hk:cs[k]? =some AV.esl)
 (h:K (.ptr id 0 0) [(id,some (.rows false [setAt cs k [.osw (id+1) z]])),(id+1,some (.rows true []))] []):BoxV v t id K:=⟨k,z,cs,hz,hk,h⟩
theorem Zn0{P:Program}{t:TypeId}{id:Nat}{K:AV→List (Nat×Option AO)→List Nat→Prop}(k z:Nat)(cs:List AV)(hz:zeroA P t=some cs)(hk:cs[k]? =some AV.esl)
 (h:K (.ptr id 0 0) [(id,some (.rows false [setAt cs k [.osw (id+1) z]])),(id+1,some (.rows true []))] []):ZrU P t id K:=⟨k,z,cs,hz,hk,h⟩
def xopF(P:Program)(ev:Operand→AV)(ol:Nat→Option AO)(id:Nat)(op:Op)(K:AV→List (Nat×Option AO)→List Nat→Prop):Prop:=
 match op with
 |.mapUpdate t m k x=>match ev m with
  |.mapo o=>match ol o with
   |some (.fmap z fs h)=>opt (keyT P t) fun kt=>keyOk P kt (ev k)=true∧FPut P kt (ev k) (ev x) o z fs h ol fun U=>K .undef U []
   |_=>False
  |_=>False
 |.insert t m k x=>match ev m with
  |.mapo o=>match ol o with
   |some (.fmap z fs h)=>opt (keyT P t) fun kt=>keyOk P kt (ev k)=true∧FPut P kt (ev k) (ev x) o z fs h ol fun U=>K .undef U []
   |_=>False
  |_=>False
 |.lookup t m k ok=>match ev m with
  |.mapo o=>match ol o with
   |some (.fmap z fs h)=>opt (keyT P t) fun kt=>keyOk P kt (ev k)=true∧FLook P t kt ok (ev k) o z fs h id K
   |_=>False
  |_=>False
 |.call {callee:=.builtin .delete,args,argTypes}=>match args.toList,argTypes.toList with
  | [m,k],[t,_]=>match ev m with
   |.mapo o=>match ol o with
    |some (.fmap z fs h)=>opt (keyT P t) fun kt=>keyOk P kt (ev k)=true∧FDel P kt (ev k) o z fs h fun U=>K (.tup []) U []
    |some (.mapo p es)=>opt (keyT P t) fun kt=>keyOk P kt (ev k)=true∧MDel P kt es (ev k) p fun y=>K (.tup []) [(o,some y)] []
    |_=>False
   |_=>False
  |_,_=>False
 |.call {callee:=.builtin .clear,args,argTypes}=>match args.toList,argTypes.toList with
  | [x],[t]=>match ev x with
   |.osl o off len room=>match ol o with
    |some (.rows true rs)=>opt (rowT P t) fun sz=>opt (zeroE P t) fun z=>fL z fun z=>ZaF sz rs∧off+room≤rs.length∧K (.tup []) [(o,some (.rows true (rs.take off++(List.replicate len z++rs.drop (off+len)))))] []
    |_=>False
   |_=>False
  |_,_=>False
 |.call {callee:=.builtin .copy,args,argTypes}=>match args.toList,argTypes.toList with
  | [d,s],[t,_]=>match ev d with
   |.osw o _=>match ol o with
    |some (.rows p rs)=>opt (rowT P t) fun sz=>opt (listA ol (ev s)) fun q=>ZaF sz rs∧ZaF sz q.2.1∧K (.int .i64 (min rs.length q.2.1.length:Nat)) [(o,some (.rows (p&&q.1) (rs.take 0++(q.2.1.take (min rs.length q.2.1.length)++rs.drop (0+min rs.length q.2.1.length)))))] q.2.2
    |_=>False
   |.osl o off len room=>match ol o with
    |some (.rows p rs)=>opt (rowT P t) fun sz=>opt (listA ol (ev s)) fun q=>ZaF sz rs∧ZaF sz q.2.1∧off+room≤rs.length∧K (.int .i64 (min len q.2.1.length:Nat)) [(o,some (.rows (p&&q.1) (rs.take off++(q.2.1.take (min len q.2.1.length)++rs.drop (off+min len q.2.1.length)))))] q.2.2
    |_=>False
   |_=>False
  |_,_=>False
 |.buildSlice t len parts=>opt (rowT P t) fun sz=>opt (zeroE P t) fun z=>opt (fillA ev (fun i=>some (i*1,1)) parts.toList (List.replicate len z).flatten) fun cs=>fL cs fun cs=>
  brn (Nat.beq sz 1&&decide (len*1≤16777216)&&decide (len≤LIM)&&decide (0<len)&&decide (cs.length=len*1)&&cs.all Zee&&cs.all Zb8) (fU true (chunk 1 len cs) fun y=>K (.osw id 1) [(id,some (toLit y))] []) False
 |.convert s d x=>match ev x with
  |.osw o z=>match ol o with
   |some (.lit rs)=>brn (cnvT P s d&&Nat.beq z 1) (K (.osw o 1) [(o,some (.rows true rs))] []) False
   |_=>False
  |_=>False
 |_=>False
def isGm(ev:Operand→AV)(ol:Nat→Option AO)(m:Operand):Bool:=
 match ev m with
 |.mapo o=>(match ol o with|some (.gmap ..)=>true|_=>false)
 |_=>false
def xopG(P:Program)(ev:Operand→AV)(ol:Nat→Option AO)(id:Nat)(op:Op)(K:AV→List (Nat×Option AO)→List Nat→Prop):Prop:=
 match op with
 |.mapUpdate t m k x=>match ev m with
  |.mapo o=>match ol o with
   |some (.gmap es h)=>opt (keyT P t) fun kt=>keyOk P kt (ev k)=true∧GPut P kt (ev k) (ev x) o es h fun U=>K .undef U []
   |_=>False
  |_=>False
 |.insert t m k x=>match ev m with
  |.mapo o=>match ol o with
   |some (.gmap es h)=>opt (keyT P t) fun kt=>keyOk P kt (ev k)=true∧GPut P kt (ev k) (ev x) o es h fun U=>K .undef U []
   |_=>False
  |_=>False
 |.lookup t m k ok=>match ev m with
  |.mapo o=>match ol o with
   |some (.gmap es h)=>opt (keyT P t) fun kt=>keyOk P kt (ev k)=true∧GLook P t kt ok (ev k) o es h id K
   |_=>False
  |_=>False
 |_=>False
theorem ZrW{P:Program}{ev:Operand→AV}{ol:Nat→Option AO}{id:Nat}{op:Op}{K:AV→List (Nat×Option AO)→List Nat→Prop}
 (h:xopG P ev ol id op K):∃v U RO,GStep P ev ol id op v U RO∧K v U RO:=by
 unfold xopG at h;split at h
 ·rename_i t m k x
  split at h
  ·rename_i o hm
   split at h
   ·rename_i es hh ho
    obtain⟨kt,hkt,h⟩:=opt_e h
    obtain⟨hc,q,g0,rfl,h2,h3,h4,h⟩:=h
    exact⟨_,_,_,.put _ t kt m k x (.inl rfl) o q es hm ho hkt hc h2 h3 h4 g0,h⟩
   simp_all
  simp_all
 ·rename_i t m k x
  split at h
  ·rename_i o hm
   split at h
   ·rename_i es hh ho
    obtain⟨kt,hkt,h⟩:=opt_e h
    obtain⟨hc,q,g0,rfl,h2,h3,h4,h⟩:=h
    exact⟨_,_,_,.put _ t kt m k x (.inr rfl) o q es hm ho hkt hc h2 h3 h4 g0,h⟩
   simp_all
  simp_all
 ·rename_i t m k ok
  split at h
  ·rename_i o hm
   split at h
   ·rename_i es hh ho
    obtain⟨kt,hkt,h⟩:=opt_e h
    obtain⟨hc,h⟩:=h
    rcases h.h with ⟨i,e,rfl,h1,h2,h3,h⟩|⟨i,q,rfl,h1,h⟩|⟨v,h1,h2,h⟩
    ·exact⟨_,_,_,.look t kt m k ok o es i e hm ho hkt hc h1 h2 h3,h⟩
    ·exact⟨_,_,_,.same t kt m k ok o q es i hm ho hkt hc h1,h⟩
    ·exact⟨_,_,_,.lookNo t kt m k ok o es hh v hm ho hkt hc h1 h2,h⟩
   simp_all
  simp_all
 simp_all
theorem arr2{α:Type}{a:Array α}{x y:α}(h:a.toList=[x,y]):a=#[x,y]:=by
 grind
theorem arr1{α:Type}{a:Array α}{x:α}(h:a.toList=[x]):a=#[x]:=by
 grind
theorem brn_t{b:Bool}{A:Prop}(h:brn b A False):b=true∧A:=by
 rcases brn_e h with h|⟨_,h⟩
 all_goals simp_all
theorem Zi2{P:Program}{ev:Operand→AV}{ol:Nat→Option AO}{id:Nat}{op:Op}{K:AV→List (Nat×Option AO)→List Nat→Prop}
 (h:xopF P ev ol id op K):∃v U RO,FStep P ev ol id op v U RO∧K v U RO:=by
 unfold xopF at h;split at h
 ·rename_i t m k x
  split at h
  ·rename_i o hm
   split at h
   ·rename_i z fs hh ho
    obtain⟨kt,hkt,h⟩:=opt_e h
    obtain⟨hc,r,q,rs,h1,h2,h3,h4,h5,h6,h7,h8,h⟩:=h
    exact⟨_,_,_,.upd _ t kt m k x (.inl rfl) o z q fs hh r rs hm ho hkt hc h1 h2 h3 h4 h5 h6 h7 h8,h⟩
   simp_all
  simp_all
 ·rename_i t m k x
  split at h
  ·rename_i o hm
   split at h
   ·rename_i z fs hh ho
    obtain⟨kt,hkt,h⟩:=opt_e h
    obtain⟨hc,r,q,rs,h1,h2,h3,h4,h5,h6,h7,h8,h⟩:=h
    exact⟨_,_,_,.upd _ t kt m k x (.inr rfl) o z q fs hh r rs hm ho hkt hc h1 h2 h3 h4 h5 h6 h7 h8,h⟩
   simp_all
  simp_all
 ·rename_i t m k ok
  split at h
  ·rename_i o hm
   split at h
   ·rename_i z fs hh ho
    obtain⟨kt,hkt,h⟩:=opt_e h
    obtain⟨hc,h⟩:=h
    rcases h.h with ⟨i,e,rfl,h1,h2,h⟩|⟨r,rfl,h1,h2,h⟩|⟨v,h1,h2,h⟩
    ·exact⟨_,_,_,.look t kt m k ok o z fs i e hm ho hkt hc h1 h2,h⟩
    ·exact⟨_,_,_,.peek t kt m k o z fs hh r hm ho hkt hc h1 h2,h⟩
    ·exact⟨_,_,_,.lookNo t kt m k ok o z fs hh v hm ho hkt hc h1 h2,h⟩
   simp_all
  simp_all
 ·rename_i args ts
  split at h
  ·rename_i m k t tk ha ht
   rw[arr2 ha,arr2 ht];split at h
   ·rename_i o hm
    split at h
    ·rename_i z fs hh ho
     obtain⟨kt,hkt,h⟩:=opt_e h
     obtain⟨hc,r,h1,h2,h⟩:=h
     exact⟨_,_,_,.del t tk kt m k o z fs hh r hm ho hkt hc h1 h2,h⟩
    ·rename_i p es ho
     obtain⟨kt,hkt,h⟩:=opt_e h
     obtain⟨hc,r,h1,h⟩:=h
     exact⟨_,_,_,.delM t tk kt m k o p es r hm ho hkt hc h1,h⟩
    simp_all
   simp_all
  simp_all
 ·rename_i args ts
  split at h
  ·rename_i x t ha ht
   rw[arr1 ha,arr1 ht];split at h
   ·rename_i o off len room hx
    split at h
    ·rename_i rs ho
     obtain⟨sz,hsz,h⟩:=opt_e h
     obtain⟨z,hz,h⟩:=opt_e h
     rw[fL_eq]at h
     obtain⟨hl,hr,h⟩:=h
     exact⟨_,_,_,.clr t x o off len room true rs z sz hx ho hsz hz hl hr,h⟩
    simp_all
   simp_all
  simp_all
 ·rename_i args ts
  split at h
  ·rename_i d s t _ ha ht
   rw[arr2 ha,arr2 ht];split at h
   ·rename_i o z hd
    split at h
    ·rename_i p rs ho
     obtain⟨sz,hsz,h⟩:=opt_e h
     obtain⟨q,hq,hl,hl',h⟩:=opt_e h
     exact⟨_,_,_,.copy t _ d s o 0 rs.length p rs q sz ho (.inl ⟨z,hd,rfl,rfl⟩) hq hsz hl hl',h⟩
    simp_all
   ·rename_i o off len room hd
    split at h
    ·rename_i p rs ho
     obtain⟨sz,hsz,h⟩:=opt_e h
     obtain⟨q,hq,hl,hl',hr,h⟩:=opt_e h
     exact⟨_,_,_,.copy t _ d s o off len p rs q sz ho (.inr ⟨room,hd,hr⟩) hq hsz hl hl',h⟩
    simp_all
   simp_all
  simp_all
 ·rename_i t len parts
  obtain⟨sz,hsz,h⟩:=opt_e h
  obtain⟨z,hz,h⟩:=opt_e h
  obtain⟨cs,hcs,h⟩:=opt_e h
  rw[fL_eq]at h
  obtain⟨hc,h'⟩:=brn_t h
  rw[fU_eq]at h';simp only[Y8,Ym]at hc
  have h1:=Vm hc.1.1.1.1.1.1
  subst h1;exact⟨_,_,_,.litS t len parts z cs hsz hz hc.1.1.1.1.1.2 hc.1.1.1.1.2 hc.1.1.1.2 hc.1.1.2 hc.1.2 hc.2 hcs,h'⟩
 ·rename_i s d x
  split at h
  ·rename_i o z hx
   split at h
   ·rename_i rs ho
    obtain⟨hc,h'⟩:=brn_t h
    rw[Y8]at hc
    have h1:=Vm hc.2
    subst h1;exact⟨_,_,_,.cnv s d x o rs hx ho hc.1,h'⟩
   simp_all
  simp_all
 simp_all
theorem ZoC{P:Program}{ev:Operand→AV}{ol:Nat→Option AO}{id:Nat}{t:TypeId}{x:Operand}{lo hi:Option Operand}{K:AV→List (Nat×Option AO)→List Nat→Prop}
 (h:ZoD P ev ol id t x lo hi K):∃v U RO,BStep P ev ol id (.slice t x lo hi none) v U RO∧K v U RO:=by
 unfold ZoD at h;split at h
 ·rename_i l hx
  split at h
  ·rename_i ht
   obtain⟨a,ha,h⟩:=Zi0 h
   obtain⟨b,hb,h1,h2,h⟩:=Zi0 h
   rw[ZrP ha hb]at h;exact⟨_,_,_,.slStr t x lo hi l a b hx ht ha hb h1 h2,h⟩
  simp_all
 ·rename_i xs hx
  obtain⟨sz,hsz,hl,h⟩:=opt_e h
  obtain⟨a,ha,h⟩:=Zi0 h
  obtain⟨b,hb,h1,h2,h⟩:=Zi0 h
  rw[ZrP ha hb]at h
  refine⟨_,_,_,.slSl t x lo hi xs a b sz hx hsz ?_ ha hb h1 h2,h⟩
  cases lo with
  |none=>exact .inl ha
  |some _=>exact .inr hl
 ·rename_i o z hx
  obtain⟨sz,hsz,h⟩:=opt_e h
  obtain⟨rs,hrs,hl,h⟩:=opt_e h
  rcases h with h|⟨rs',hi',h5,h6,ho,h7,h4⟩
  rotate_left
  ·subst h5;subst h6;subst h7
   obtain⟨b,hb,hbl,h3⟩:=Zi0 h4
   have:rs=rs':=by
    unfold rowsR at hrs;rw[ho]at hrs
    injection hrs with hrs;exact hrs.symm
   subst this;exact⟨_,_,_,.cutW t x hi' o z b rs hx ho hl hsz hb hbl,h3⟩
  obtain⟨a,ha,h⟩:=Zi0 h
  obtain⟨b,hb,h1,h2,h⟩:=Zi0 h
  obtain⟨y,hy,hy'⟩:=Zga hrs
  exact⟨_,_,_,.slOsw t x lo hi o z a b sz y rs hx hy hy' hl hsz ha hb h1 h2,h⟩
 ·rename_i o off len room hx
  obtain⟨sz,hsz,h⟩:=opt_e h
  obtain⟨rs,hrs,hl,hr,h⟩:=opt_e h
  obtain⟨a,ha,h⟩:=Zi0 h
  obtain⟨b,hb,h1,h2,h⟩:=Zi0 h
  obtain⟨y,hy,hy'⟩:=Zga hrs
  exact⟨_,_,_,.slOsl t x lo hi o off len room a b sz y rs hx hy hy' hl hsz ha hb h1 h2 hr,h⟩
 simp_all
theorem ZrX{P:Program}{ev:Operand→AV}{ol:Nat→Option AO}{id:Nat}{op:Op}{K:AV→List (Nat×Option AO)→List Nat→Prop}
 (h:xopB P ev ol id op K):∃v U RO,BStep P ev ol id op v U RO∧K v U RO:=by
 unfold xopB at h;split at h
 ·exact ZoC h
 ·rename_i t x hh m
  split at h
  ·rename_i k1 h1 k2 m1 he hm
   split at h
   ·grind
   ·rename_i hs
    obtain⟨sz,hsz,h⟩:=opt_e h
    obtain⟨q,hq,h⟩:=opt_e h
    obtain⟨hc,h⟩:=brn_t h
    simp only[Y8,Ym]at hc
    obtain⟨rfl,rfl⟩:=hc
    exact⟨_,_,_,.slZero t x none hh m k1 k2 q sz (fun l e=>hs l e) hq hsz rfl he hm,h⟩
  simp_all
 ·rename_i t l c
  split at h
  ·rename_i k1 n k2 m hl hc
   obtain⟨sz,hsz,h⟩:=opt_e h
   obtain⟨z,hz,h⟩:=opt_e h
   rw[fL_eq]at h
   obtain⟨h0,h1,h2,h⟩:=h
   exact⟨_,_,_,.mkSl t l c k1 k2 n m z sz hl hc h0 h1 h2 hsz hz,h⟩
  simp_all
 ·rename_i t len parts
  obtain⟨sz,hsz,h⟩:=opt_e h
  obtain⟨z,hz,h⟩:=opt_e h
  obtain⟨cs,hcs,h⟩:=opt_e h
  rw[fL_eq]at h
  obtain⟨hc,h⟩:=brn_t h
  simp only[Y8,Ym]at hc;rw[fU_eq]at h;exact⟨_,_,_,.bldSl t len parts z cs sz hsz hz hc.1.1.1 hc.1.1.2 hc.1.2 hc.2 hcs,h⟩
 ·rename_i s d x
  split at h
  ·rename_i l hx
   obtain⟨hc,hl,h⟩:=brn_t h
   exact⟨_,_,_,.toBytes s d x l hx hc hl,h⟩
  ·rename_i hs
   obtain⟨q,hq,h⟩:=opt_e h
   obtain⟨hc,l,hl,h⟩:=brn_t h
   exact⟨_,_,_,.toStr s d x l q (fun l e=>hs l e) hq hl hc,h⟩
 ·rename_i t
  obtain⟨hc,h⟩:=brn_t h
  exact⟨_,_,_,.mkMap t hc,h⟩
 ·rename_i t x
  split at h
  ·rename_i k n hx
   obtain⟨hc,h⟩:=brn_t h
   exact⟨_,_,_,.mkMapN t x k n hc hx,h⟩
  simp_all
 ·rename_i t m k x
  split at h
  ·rename_i o hm
   split at h
   ·rename_i p es ho
    obtain⟨kt,hkt,h⟩:=opt_e h
    obtain⟨hc,h⟩:=h
    rcases h with h|⟨r,v',hwk,hr,hlim,h⟩
    ·obtain⟨r,hr,hlim,h⟩:=ZmJ h
     rw[fM_eq]at h;exact⟨_,_,_,.mapUpd _ t kt m k x (.inl rfl) o p es r hm ho hkt hc hr hlim _ (.refl _),h⟩
    ·exact⟨_,_,_,.mapUpd _ t kt m k x (.inl rfl) o p es r hm ho hkt hc hr hlim v' hwk,h⟩
   simp_all
  simp_all
 ·rename_i t m k x
  split at h
  ·rename_i o hm
   split at h
   ·rename_i p es ho
    obtain⟨kt,hkt,h⟩:=opt_e h
    obtain⟨hc,h⟩:=h
    rcases h with h|⟨r,v',hwk,hr,hlim,h⟩
    ·obtain⟨r,hr,hlim,h⟩:=ZmJ h
     rw[fM_eq]at h;exact⟨_,_,_,.mapUpd _ t kt m k x (.inr rfl) o p es r hm ho hkt hc hr hlim _ (.refl _),h⟩
    ·exact⟨_,_,_,.mapUpd _ t kt m k x (.inr rfl) o p es r hm ho hkt hc hr hlim v' hwk,h⟩
   simp_all
  simp_all
 ·rename_i t m k ok
  split at h
  ·rename_i o hm
   split at h
   ·rename_i p es ho
    obtain⟨kt,hkt,h⟩:=opt_e h
    obtain⟨hc,h⟩:=h
    rcases h with h|⟨r,v,hr,hv,h⟩
    ·obtain⟨r,hr,h⟩:=ZmJ h
     cases r with
     |none=>
      simp only[ZoE]at h
      obtain⟨vt,hvt,h⟩:=opt_e h
      obtain⟨v,hv,h⟩:=opt_e h
      rw[Ze2]at h
      refine⟨_,_,_,.look t kt m k ok o p es _ v hm ho hkt hc hr (.inr ⟨rfl,vt,v,hvt,hv,.refl _⟩),?_⟩
      grind
     |some i=>
      simp only[ZoE]at h
      obtain⟨e,he,h⟩:=opt_e h
      rw[Ze2]at h
      refine⟨_,_,_,.look t kt m k ok o p es _ e.2 hm ho hkt hc hr (.inl ⟨i,e,rfl,he,rfl⟩),?_⟩
      grind
    ·refine⟨_,_,_,.look t kt m k ok o p es r v hm ho hkt hc hr hv,?_⟩
     grind
   simp_all
  ·rename_i hm
   obtain⟨kt,hkt,h⟩:=opt_e h
   obtain⟨hc,h⟩:=h
   obtain⟨vt,hvt,h⟩:=opt_e h
   obtain⟨v,hv,h⟩:=opt_e h
   rw[Ze2]at h
   refine⟨_,_,_,.lookN t kt vt m k ok v hm hkt hc hvt hv,?_⟩
   grind
  simp_all
 ·rename_i args ts
  split at h
  ·rename_i s x t tx ha ht
   rw[arr2 ha,arr2 ht];unfold ZoF at h;split at h
   ·rename_i hs
    obtain⟨q,hq,h⟩:=opt_e h
    obtain⟨sz,hsz,h⟩:=opt_e h
    obtain⟨hc,hl,hlim,h⟩:=brn_t h
    rw[fU_eq]at h;exact⟨_,_,_,.appE t tx s x q sz hs hq hsz hc hl hlim,h⟩
   ·rename_i o z hs
    split at h
    ·rename_i p rs ho
     obtain⟨q,hq,h⟩:=opt_e h
     obtain⟨sz,hsz,h⟩:=opt_e h
     obtain⟨hc,hl,hl',hlim,h⟩:=brn_t h
     simp only[Y8,Ym]at hc;rw[fU_eq]at h;exact⟨_,_,_,.appW t tx s x q sz o z p rs hs hc.2 ho hq hsz hc.1 hl hl' hlim,h⟩
    simp_all
   simp_all
  simp_all
 simp_all
def elemT(P:Program)(t:TypeId):Option TypeId:=
 match P.underlying t with
 |some (.slice e)=>some e
 |_=>none
def sizeT(P:Program)(t:TypeId):Option Nat:=(kindT P t).map (·.2)
structure CallG(P:Program)(G:Gmap)(f:Nat)(avs:List AV)(ol:Nat→Option AO)(id:Nat)(K:AV→List (Nat×Option AO)→List Nat→Prop):Prop where
 h:(∃(V:List Nat) (oin:List (Nat×AO)) (argsC:List AV) (rv:AV) (os':List (Nat×AO)),FC P G f oin argsC rv os'∧Hands V id ol avs oin argsC∧
  fAV (renAV (bk V id) rv) fun v=>K v (backU V id os') V)∨
  (∃(V:List Nat) (oin:List (Nat×AO)) (argsC:List AV) (rv:AV),FC P G f oin argsC rv oin∧Hands V id ol avs oin argsC∧oin.map (fun e=>some (renO (bk V id) e.2))=V.map ol∧
  fAV (renAV (bk V id) rv) fun v=>K v [] V)
theorem ZsH{P:Program}{G:Gmap}{f:Nat}{avs:List AV}{ol:Nat→Option AO}{id:Nat}{K:AV→List (Nat×Option AO)→List Nat→Prop}
 (V:List Nat) {oin:List (Nat×AO)} {argsC:List AV} {rv:AV} {os':List (Nat×AO)} (hf:FC P G f oin argsC rv os')
 (h1:(decide V.Nodup&&idsBL V.length argsC&&oin.all fun e=>idsBO V.length e.2)=true) (h2:oin.map (·.1)=List.range V.length)
 (h3:WkOs (V.map ol) (oin.map fun e=>some (renO (bk V id) e.2))) (h4:WkL avs (renL (bk V id) argsC)) (hK:fAV (renAV (bk V id) rv) fun v=>K v (backU V id os') V):
 CallG P G f avs ol id K:=⟨.inl ⟨V,oin,argsC,rv,os',hf,⟨h1,h2,h3,h4⟩,hK⟩⟩
theorem ZhQ{P:Program}{G:Gmap}{f:Nat}{avs:List AV}{ol:Nat→Option AO}{id:Nat}{K:AV→List (Nat×Option AO)→List Nat→Prop}
 (V:List Nat) {oin:List (Nat×AO)} {argsC:List AV} {rv:AV} {os':List (Nat×AO)} (hf:FC P G f oin argsC rv os')
 (h1:(decide V.Nodup&&idsBL V.length argsC&&oin.all fun e=>idsBO V.length e.2)=true) (h2:oin.map (·.1)=List.range V.length)
 (h3:oin.map (fun e=>some (renO (bk V id) e.2))=V.map ol) (h4:renL (bk V id) argsC=avs) (hK:fAV (renAV (bk V id) rv) fun v=>K v (backU V id os') V):
 CallG P G f avs ol id K:=⟨.inl ⟨V,oin,argsC,rv,os',hf,⟨h1,h2,.of_eq h3,.of_eq h4⟩,hK⟩⟩
theorem Zqi{P:Program}{G:Gmap}{f:Nat}{avs:List AV}{ol:Nat→Option AO}{id:Nat}{K:AV→List (Nat×Option AO)→List Nat→Prop}
 (V:List Nat) {oin:List (Nat×AO)} {argsC:List AV} {rv:AV} (hf:FC P G f oin argsC rv oin)
 (h1:(decide V.Nodup&&idsBL V.length argsC&&oin.all fun e=>idsBO V.length e.2)=true) (h2:oin.map (·.1)=List.range V.length)
 (h3:oin.map (fun e=>some (renO (bk V id) e.2))=V.map ol) (h4:renL (bk V id) argsC=avs) (hK:fAV (renAV (bk V id) rv) fun v=>K v [] V):
 CallG P G f avs ol id K:=⟨.inr ⟨V,oin,argsC,rv,hf,⟨h1,h2,.of_eq h3,.of_eq h4⟩,h3,hK⟩⟩
def Zkv(K:Nat→Prop)(n:Int):Nat→Nat→Prop
 |0,_=>True
 |k+1,i=>brc (n==Int.ofNat i) (K i) (fN (i+1) fun j=>Zkv K n k j)
theorem Zrt{K:Nat→Prop}{n:Int}:∀(k i:Nat),Zkv K n k i→(i:Int)≤n→n<(i+k:Nat)→K n.toNat:=by
 intro k
 induction k with
 |zero=>omega
 |succ k ih=>
  intro i h h1 h2;simp only[Zkv]at h
  rcases brn_e h with ⟨hb,hx⟩|⟨hb,hx⟩
  ·simp_all
  ·rw[fN_eq]at hx
   grind
theorem Zkm{K:Nat→Prop}{n:Int}{k:Nat}(h0:0≤n)(h1:n<(k:Int))(h:K n.toNat∨Zkv K n k 0):K n.toNat:=by
 rcases h with h|h
 ·exact h
 ·exact Zrt k 0 h (by omega) (by omega)
def StZ(A:Prop):Prop:=A
structure StV(P:Program)(t:TypeId)(o i c:Nat)(p:Bool)(rs:List (List AV))(id:Nat)(K:AV→List (Nat×Option AO)→List Nat→Prop):Prop where
 h:∃z row n,rs[i]? =some row∧sizeT P t=some n∧1=n∧c+n≤row.length∧K .undef [(o,some (.rows (p&&[AV.osw id z].all Zb8) (rs.set i (setAt row c [.osw id z])))),(id,some (.rows true []))] []
theorem stV_i{P:Program}{t:TypeId}{o i c:Nat}{p:Bool}{rs:List (List AV)}{id:Nat}{K:AV→List (Nat×Option AO)→List Nat→Prop}(z:Nat)(row:List AV)(n:Nat)(h1:rs[i]? =some row)(h2:sizeT P t=some n)
 (h3:(decide (1=n)&&decide (c+n≤row.length))=true)
 (h:fU (p&&[AV.osw id z].all Zb8) (rs.set i (setAt row c [.osw id z])) fun y=>K .undef [(o,some y),(id,some (.rows true []))] []):StV P t o i c p rs id K:=by
 rw[fU_eq]at h;simp only[Y8,Ym]at h3;exact⟨z,row,n,h1,h2,h3.1,h3.2,h⟩
def ZlU(P:Program)(ev:Operand→AV)(t:TypeId)(x:Operand)(o i c:Nat)(p:Bool)(rs:List (List AV))(K:AV→List (Nat×Option AO)→List Nat→Prop):Prop:=
 opt (rs[i]?) fun row=>opt (ZbE (ev x)) fun cs=>opt (sizeT P t) fun n=>
  brn (decide (cs.length=n)&&decide (c+n≤row.length)) (fU (p&&cs.all Zb8) (rs.set i (setAt row c cs)) fun y=>K .undef [(o,some y)] []) False
def xop(P:Program)(G:Gmap)(ev:Operand→AV)(ol:Nat→Option AO)(ids:List Nat)(id:Nat)(ty:TypeId)(op:Op)(K:AV→List (Nat×Option AO)→List Nat→Prop):Prop:=
 match op with
 |.assign (.const (.slice none 0 0))=>opt (rowT P ty) fun z=>K (.osw id z) [(id,some (.rows true []))] []
 |.pick c a b=>match ev c with
  |.bool t=>brc t (fAV (ev a) fun v=>K v [] []) (fAV (ev b) fun v=>K v [] [])
  |_=>False
 |.alloc t=>(opt (zeroA P t) fun cs=>fL cs fun cs=>K (.ptr id 0 0) [(id,some (.rows false [cs]))] [])∨ZrU P t id K
 |.box t x=>(opt (ZbE (ev x)) fun cs=>fL cs fun cs=>K (.ptr id 0 0) [(id,some (.rows false [cs]))] [])∨BoxV (ev x) t id K
 |.load t a=>match ev a with
  |.ptr o i c=>opt (rowsR ol o) fun rs=>opt (rs[i]?) fun row=>opt (Zgh P t row c) fun v=>fAV v fun v=>K v [] [o]
  |.rp row c=>opt (Zgh P t row c) fun v=>fAV v fun v=>K v [] []
  |_=>False
 |.store t a x=>match ev a with
  |.ptr o i c=>match ol o with
   |some (.rows p rs)=>match ev x with
    |.osw q _=>ZlU P ev t x o i c p rs K∨StZ (match ol q with
     |some (.rows true xs)=>opt (rs[i]?) fun row=>opt (sizeT P t) fun n=>
      brn (decide (1=n)&&decide (c+n≤row.length)&&decide (o≠q)) (fU (p&&[AV.sl xs].all Zb8) (rs.set i (setAt row c [.sl xs])) fun y=>K .undef [(o,some y),(q,some (.froz xs))] []) False
     |_=>False)
    |.esl=>ZlU P ev t x o i c p rs K∨StV P t o i c p rs id K
    |_=>ZlU P ev t x o i c p rs K
   |_=>False
  |_=>False
 |.indexAddr t x ix=>match ev ix with
  |.int _ n=>match ev x with
   |.sl xs=>0≤n∧opt (elemT P t) fun e=>opt (sizeT P e) fun sz=>opt (xs[n.toNat]?) fun row=>brn (decide (sz=row.length)) (K (.rp row 0) [] []) False
   |.osw o _=>0≤n∧opt (elemT P t) fun e=>opt (sizeT P e) fun sz=>opt (rowsR ol o) fun rs=>opt (rs[n.toNat]?) fun row=>brn (decide (sz=row.length)) (K (.ptr o n.toNat 0) [] [o]) False
   |.osl o off len _=>0≤n∧n.toNat<len∧opt (elemT P t) fun e=>opt (sizeT P e) fun sz=>opt (rowsR ol o) fun rs=>opt (rs[off+n.toNat]?) fun row=>
    brn (decide (sz=row.length)) (K (.ptr o (off+n.toNat) 0) [] [o]) False
   |.ptr o r c=>match P.underlying t with
    |some (.array len e)=>0≤n∧n<len∧opt (sizeT P e) fun sz=>K (.ptr o r (c+n.toNat*sz)) [] []∨Zkv (fun i=>K (.ptr o r (c+i*sz)) [] []) n len 0
    |_=>False
   |.rp row c=>match P.underlying t with
    |some (.array len e)=>0≤n∧n<len∧opt (sizeT P e) fun sz=>K (.rp row (c+n.toNat*sz)) [] []∨Zkv (fun i=>K (.rp row (c+i*sz)) [] []) n len 0
    |_=>False
   |_=>False
  |_=>False
 |.index t x ix=>match ev ix with
  |.int _ n=>match ev x with
   |.str l=>match P.underlying t with
    |some .string=>0≤n∧opt (l[n.toNat]?) fun c=>K (.int .u8 c.toNat) [] []
    |_=>False
   |.agg cs=>match P.underlying t with
    |some (.array len e)=>0≤n∧n<len∧opt (sizeT P e) fun sz=>(opt (Zgh P e cs (n.toNat*sz)) fun v=>fAV v fun v=>K v [] [])∨Zkv (fun i=>opt (Zgh P e cs (i*sz)) fun v=>fAV v fun v=>K v [] []) n len 0
    |_=>False
   |_=>False
  |_=>False
 |.binOp .quo _ x y _=>match ev x,ev y with
  |.int k a,.int k' b=>match decEq k k' with|.isTrue _=>b≠0∧K (.int k (k.wrap (a.tdiv b))) [] []|.isFalse _=>False
  |_,_=>False
 |.binOp .rem _ x y _=>match ev x,ev y with
  |.int k a,.int k' b=>match decEq k k' with|.isTrue _=>b≠0∧K (.int k (a.tmod b)) [] []|.isFalse _=>False
  |_,_=>False
 |.binOp .shl _ x y _=>match ev x,ev y with
  |.int k a,.int _ b=>0≤b∧K (.int k (k.wrap (a*2^(min b.toNat k.bits)))) [] []
  |_,_=>False
 |.binOp .shr _ x y _=>match ev x,ev y with
  |.int k a,.int _ b=>0≤b∧K (.int k (a.fdiv (2^(min b.toNat k.bits)))) [] []
  |_,_=>False
 |.binOp .eql t x (.const (.slice none 0 0)) _=>opt (elemT P t) fun _=>match ev x with
  |.sl xs=>K (.anyb (xs=[])) [] []
  |.osw o _=>match ol o with
   |some (.rows true rs)=>K (.anyb (rs=[])) [] [o]
   |_=>False
  |_=>False
 |.binOp op t x y _=>match ev x,ev y with
  |.agg cs,.agg ds=>match op with
   |.eql=>((Zdi P 20 t&&!P.eqGuardType P.depth t&&decide (cs.length=P.cellsOf t)&&decide (ds.length=P.cellsOf t))=true∧∃fs,P.underlying t=some (.struct fs))∧
    opt (Zdj P 20 t cs ds 0) fun r=>K (.bool r) [] []
   |.neq=>((Zdi P 20 t&&!P.eqGuardType P.depth t&&decide (cs.length=P.cellsOf t)&&decide (ds.length=P.cellsOf t))=true∧∃fs,P.underlying t=some (.struct fs))∧
    opt (Zdj P 20 t cs ds 0) fun r=>K (.bool !r) [] []
   |_=>False
  |.str a,.str b=>match op with
   |.add=>a.length+b.length≤9223372036854775807∧K (.str (a++b)) [] []
   |op=>opt (bin P op t (.str a) (.str b)) fun v=>K v [] []
  |x,y=>opt (bin P op t x y) fun v=>fAV v fun v=>K v [] []
 |.call {callee:=.builtin .len,args,argTypes}=>opt (argTypes[0]?) fun t=>opt (args[0]?) fun x=>match ev x with
  |.osw o _=>opt (elemT P t) fun _=>opt (rowsR ol o) fun rs=>K (.int .i64 rs.length) [] [o]
  |.mapo o=>match ol o with
   |some (.fmap _ fs _)=>brn (keyT P t).isSome (K (.int .i64 fs.length) [] [o]) False
   |_=>False
  |v=>opt (lenOp P t v) fun v=>K v [] []
 |.call {callee:=.value fn,args,..}=>match ev fn with
  |.fn f cap=>(opt (Zel (ZaT ids ol 8) (args.toList.map ev++cap)) fun argsC=>fL argsC fun argsC=>
   ∃rv os',FC P G f [] argsC rv os'∧
    ((
     flat rv=true∧os'=[]∧fAV rv fun rv=>K rv [] ids)∨∃V,(Zel (ZaT V ol 8) (args.toList.map ev++cap)=some argsC)∧
     opt (frozen V ol 8) fun U=>fAV (renAV (id+ ·) rv) fun rv=>K rv (U++ZgN id os') V))∨
   CallG P G f (args.toList.map ev++cap) ol id K
  |_=>False
 |.build t ps=>(opt (pval P ev (.build t ps)) fun v=>fAV v fun v=>K v [] [])∨ZrT P ev t ps id K
 |.slice t x lo hi mx=>xopB P ev ol id (.slice t x lo hi mx) K
 |.convert s d x=>brn (cnvT P s d) (xopF P ev ol id (.convert s d x) K) (brn (Zii P s d||Zii P d s) (xopB P ev ol id (.convert s d x) K) (opt (pval P ev (.convert s d x)) fun v=>fAV v fun v=>K v [] []))
 |.makeSlice t l c=>xopB P ev ol id (.makeSlice t l c) K
 |.buildSlice t l ps=>xopB P ev ol id (.buildSlice t l ps) K∨LitX (xopF P ev ol id (.buildSlice t l ps) K)
 |.makeMap t none=>xopB P ev ol id (.makeMap t none) K∨brn (keyT P t).isSome (FMk id K) False
 |.makeMap t r=>xopB P ev ol id (.makeMap t r) K
 |.mapUpdate t m k x=>orF (isF ev ol m) (xopF P ev ol id (.mapUpdate t m k x) K) (orF (isGm ev ol m) (xopG P ev ol id (.mapUpdate t m k x) K) (xopB P ev ol id (.mapUpdate t m k x) K))
 |.insert t m k x=>orF (isF ev ol m) (xopF P ev ol id (.insert t m k x) K) (orF (isGm ev ol m) (xopG P ev ol id (.insert t m k x) K) (xopB P ev ol id (.insert t m k x) K))
 |.lookup t m k ok=>orF (isF ev ol m) (xopF P ev ol id (.lookup t m k ok) K) (orF (isGm ev ol m) (xopG P ev ol id (.lookup t m k ok) K) (xopB P ev ol id (.lookup t m k ok) K))
 |.call {callee:=.builtin .append,args,argTypes}=>xopB P ev ol id (.call {callee:=.builtin .append,args,argTypes}) K
 |.call {callee:=.builtin .delete,args,argTypes}=>xopF P ev ol id (.call {callee:=.builtin .delete,args,argTypes}) K
 |.call {callee:=.builtin .clear,args,argTypes}=>xopF P ev ol id (.call {callee:=.builtin .clear,args,argTypes}) K
 |.call {callee:=.builtin .copy,args,argTypes}=>xopF P ev ol id (.call {callee:=.builtin .copy,args,argTypes}) K
 |op=>opt (pval P ev op) fun v=>fAV v fun v=>K v [] []
theorem ZgL{P:Program}{t e:TypeId}(h:elemT P t=some e):P.underlying t=some (.slice e):=by
 unfold elemT at h
 grind
theorem Zfa{P:Program}{t:TypeId}{n:Nat}(h:sizeT P t=some n):∃b,kindT P t=some (b,n):=by
 unfold sizeT at h;simp_all
theorem ZsW{P:Program}{G:Gmap}{ev:Operand→AV}{ol:Nat→Option AO}{ids:List Nat}{id:Nat}{ty:TypeId}{op:Op}{K:AV→List (Nat×Option AO)→List Nat→Prop}
 (h:xop P G ev ol ids id ty op K):∃v U RO,ZStep P G ev ol id op v U RO∧K v U RO:=by
 have pv:∀{op:Op},(opt (pval P ev op) fun v=>fAV v fun v=>K v [] [])→∃v U RO,ZStep P G ev ol id op v U RO∧K v U RO:=by
  intro op h
  obtain⟨v,hv,h⟩:=opt_e h
  rw[Ze2]at h
  exact⟨v,[],[],.of<|.pure op v hv,h⟩
 have bv:∀{op:Op},xopB P ev ol id op K→∃v U RO,ZStep P G ev ol id op v U RO∧K v U RO:=by
  intro op h
  obtain⟨v,U,RO,h1,h2⟩:=ZrX h
  exact⟨v,U,RO,.of<|.more op v U RO h1,h2⟩
 have fv:∀{b b':Bool} {op:Op},orF b (xopF P ev ol id op K) (orF b' (xopG P ev ol id op K) (xopB P ev ol id op K))→∃v U RO,ZStep P G ev ol id op v U RO∧K v U RO:=by
  intro b b' op h
  rcases orF_e h with h|h
  ·obtain⟨v,U,RO,h1,h2⟩:=Zi2 h
   exact⟨v,U,RO,.of<|.files op v U RO h1,h2⟩
  ·rcases orF_e h with h|h
   ·obtain⟨v,U,RO,h1,h2⟩:=ZrW h
    exact⟨v,U,RO,.of<|.graphs op v U RO h1,h2⟩
   grind
 unfold xop at h;split at h
 ·obtain⟨z,_,h⟩:=opt_e h
  exact⟨_,_,_,.of<|.nil z,h⟩
 ·rename_i c a b
  split at h
  ·rename_i t hc
   rcases brn_e h with ⟨ht,h'⟩|⟨ht,h'⟩
   ·subst ht
    rw[Ze2]at h'
    exact⟨_,_,_,.of<|.pick c a b true hc,h'⟩
   ·subst ht
    rw[Ze2]at h'
    exact⟨_,_,_,.of<|.pick c a b false hc,h'⟩
  simp_all
 ·rename_i t
  rcases h with h|⟨k,z,cs,hz,hk,h⟩
  ·obtain⟨cs,hz,h⟩:=opt_e h
   rw[fL_eq]at h
   exact⟨_,_,_,.of<|.alloc t cs hz,h⟩
  ·exact⟨_,_,_,.of<|.files _ _ _ _ (.allocV t cs k z hz hk),h⟩
 ·rename_i t x
  rcases h with h|⟨k,z,cs,hz,hk,h⟩
  ·obtain⟨cs,hz,h⟩:=opt_e h
   rw[fL_eq]at h
   exact⟨_,_,_,.of<|.box t x cs hz,h⟩
  ·exact⟨_,_,_,.of<|.files _ _ _ _ (.boxV t x cs k z hz hk),h⟩
 ·rename_i t a
  split at h
  ·rename_i o i c hev
   obtain⟨rs,hrs,h⟩:=opt_e h
   obtain⟨row,hrow,h⟩:=opt_e h
   obtain⟨v,hv,h⟩:=opt_e h
   rw[Ze2]at h
   obtain⟨y,hy,hy'⟩:=Zga hrs
   rcases hy' with rfl|rfl|rfl
   ·exact⟨_,_,_,.of<|.load t a o i c _ rs row v hev hy hrow hv,h⟩
   ·exact⟨_,_,_,.of<|.load t a o i c _ rs row v hev hy hrow hv,h⟩
   ·exact⟨_,_,_,.of<|.loadf t a o i c rs row v hev hy hrow hv,h⟩
  ·rename_i row c hev
   obtain⟨v,hv,h⟩:=opt_e h
   rw[Ze2]at h
   exact⟨_,_,_,.of<|.loadr t a row c v hev hv,h⟩
  simp_all
 ·rename_i t a x
  split at h
  ·rename_i o i c hev
   split at h
   ·rename_i p rs ho
    have hX:ZlU P ev t x o i c p rs K→∃v U RO,ZStep P G ev ol id (.store t a x) v U RO∧K v U RO:=by
     intro h;unfold ZlU at h
     obtain⟨row,hrow,h⟩:=opt_e h
     obtain⟨cs,hcs,h⟩:=opt_e h
     obtain⟨n,hn,h⟩:=opt_e h
     obtain⟨b,hk⟩:=Zfa hn
     rcases brn_e h with ⟨hc,h'⟩|⟨_,h'⟩
     ·simp only[Y8,Ym]at hc
      rw[fU_eq]at h'
      exact⟨_,_,_,.of<|.store t a x o i c p rs row cs b n hev ho hrow hcs hk hc.1 hc.2,h'⟩
     ·grind
    split at h
    ·rename_i q z hxe
     rcases h with h|h
     ·exact hX h
     ·unfold StZ at h
      split at h
      ·rename_i xs hq
       obtain⟨row,hrow,h⟩:=opt_e h
       obtain⟨n,hn,h⟩:=opt_e h
       obtain⟨b,hk⟩:=Zfa hn
       rcases brn_e h with ⟨hc,h'⟩|⟨_,h'⟩
       ·simp only[Y8,Ym]at hc
        rw[fU_eq]at h'
        obtain⟨⟨hc1,hc2⟩,hc3⟩:=hc
        subst hc1
        exact⟨_,_,_,.of<|.storeZ t a x o i c p rs row b q z xs hev ho hrow hxe hq hc3 hk hc2,h'⟩
       simp_all
      simp_all
    ·rename_i hxe
     rcases h with h|⟨z,row,n,h1,h2,h3,h4,h⟩
     ·exact hX h
     ·obtain⟨b,hk⟩:=Zfa h2
      subst h3
      exact⟨_,_,_,.of<|.storeV t a x o i c p rs row b z hev ho h1 hxe hk h4,h⟩
    grind
   simp_all
  simp_all
 ·rename_i t x ix
  split at h
  ·rename_i k n hix
   split at h
   ·rename_i xs hev
    obtain⟨h0,h⟩:=h
    obtain⟨e,he,h⟩:=opt_e h
    obtain⟨sz,hsz,h⟩:=opt_e h
    obtain⟨row,hrow,h⟩:=opt_e h
    obtain⟨b,hk⟩:=Zfa hsz
    rcases brn_e h with ⟨hc,h'⟩|⟨_,h'⟩
    ·have hc:=YD hc
     subst hc
     exact⟨_,_,_,.of<|.idxSl t e x ix xs k n row b hev hix h0 hrow (ZgL he) hk,h'⟩
    simp_all
   ·rename_i o z hev
    obtain⟨h0,h⟩:=h
    obtain⟨e,he,h⟩:=opt_e h
    obtain⟨sz,hsz,h⟩:=opt_e h
    obtain⟨rs,hrs,h⟩:=opt_e h
    obtain⟨row,hrow,h⟩:=opt_e h
    obtain⟨b,hk⟩:=Zfa hsz
    obtain⟨y,hy,hy'⟩:=Zga hrs
    rcases brn_e h with ⟨hc,h'⟩|⟨_,h'⟩
    ·have hc:=YD hc
     subst hc
     exact⟨_,_,_,.of<|.idxOsw t e x ix o z k n y rs row b hev hix h0 hy hy' hrow (ZgL he) hk,h'⟩
    simp_all
   ·rename_i o off len room hev
    obtain⟨h0,h1,h⟩:=h
    obtain⟨e,he,h⟩:=opt_e h
    obtain⟨sz,hsz,h⟩:=opt_e h
    obtain⟨rs,hrs,h⟩:=opt_e h
    obtain⟨row,hrow,h⟩:=opt_e h
    obtain⟨b,hk⟩:=Zfa hsz
    obtain⟨y,hy,hy'⟩:=Zga hrs
    rcases brn_e h with ⟨hc,h'⟩|⟨_,h'⟩
    ·have hc:=YD hc
     subst hc
     exact⟨_,_,_,.of<|.idxOsl t e x ix o off len room k n y rs row b hev hix h0 h1 hy hy' hrow (ZgL he) hk,h'⟩
    simp_all
   ·rename_i o r c hev
    split at h
    ·rename_i len e ht
     obtain⟨h0,h1,h⟩:=h
     obtain⟨sz,hsz,h⟩:=opt_e h
     obtain⟨b,hk⟩:=Zfa hsz
     exact⟨_,_,_,.of<|.idxArr t e x ix o r c len sz k n b hev hix h0 h1 ht hk,Zkm (K:=fun i=>K (.ptr o r (c+i*sz)) [] []) h0 h1 h⟩
    simp_all
   ·rename_i row c hev
    split at h
    ·rename_i len e ht
     obtain⟨h0,h1,h⟩:=h
     obtain⟨sz,hsz,h⟩:=opt_e h
     obtain⟨b,hk⟩:=Zfa hsz
     exact⟨_,_,_,.of<|.idxArrR t e x ix row c len sz k n b hev hix h0 h1 ht hk,Zkm (K:=fun i=>K (.rp row (c+i*sz)) [] []) h0 h1 h⟩
    simp_all
   simp_all
  simp_all
 ·rename_i t x ix
  split at h
  ·rename_i k n hix
   split at h
   ·rename_i l hev
    split at h
    ·rename_i ht
     obtain⟨h0,h⟩:=h
     obtain⟨c,hc,h⟩:=opt_e h
     exact⟨_,_,_,.of<|.strIx t x ix l k n c hev hix h0 hc ht,h⟩
    simp_all
   ·rename_i cs hev
    split at h
    ·rename_i len e ht
     obtain⟨h0,h1,h⟩:=h
     obtain⟨sz,hsz,h⟩:=opt_e h
     replace h:=Zkm (K:=fun i=>opt (Zgh P e cs (i*sz)) fun v=>fAV v fun v=>K v [] []) h0 h1 h
     obtain⟨v,hv,h⟩:=opt_e h
     rw[Ze2]at h
     obtain⟨b,hk⟩:=Zfa hsz
     exact⟨_,_,_,.of<|.arrIx t e x ix cs len sz k n b v hev hix h0 h1 ht hk hv,h⟩
    simp_all
   simp_all
  simp_all
 ·rename_i t x y t'
  split at h
  ·rename_i k a k' b hx hy
   split at h
   ·rename_i e _;subst e
    exact⟨_,_,_,.of<|.quo t t' x y k a b hx hy h.1,h.2⟩
   simp_all
  simp_all
 ·rename_i t x y t'
  split at h
  ·rename_i k a k' b hx hy
   split at h
   ·rename_i e _;subst e
    exact⟨_,_,_,.of<|.rem t t' x y k a b hx hy h.1,h.2⟩
   simp_all
  simp_all
 ·rename_i t x y t'
  split at h
  ·rename_i k a k' b hx hy
   exact⟨_,_,_,.of<|.shl t t' x y k k' a b hx hy h.1,h.2⟩
  simp_all
 ·rename_i t x y t'
  split at h
  ·rename_i k a k' b hx hy
   exact⟨_,_,_,.of<|.shr t t' x y k k' a b hx hy h.1,h.2⟩
  simp_all
 ·rename_i t x t'
  obtain⟨e,he,h⟩:=opt_e h
  split at h
  ·rename_i xs hx
   exact⟨_,_,_,.of<|.nilq t t' e x xs hx (ZgL he),h⟩
  ·rename_i o z hx
   split at h
   ·rename_i rs ho
    exact⟨_,_,_,.of<|.files _ _ _ _ (.nilqW t t' e x o z true rs hx ho (ZgL he)),h⟩
   simp_all
  simp_all
 ·rename_i op t x y t' _ _ _ _ _
  split at h
  ·rename_i cs ds hx hy
   split at h
   ·obtain⟨⟨hp,hst⟩,h⟩:=h
    obtain⟨r,hr,h⟩:=opt_e h
    simp only[Y8,Ym,WS,YP]at hp
    exact⟨_,_,_,.of<|.eqAgg t t' x y cs ds r hx hy hp.1.1.1 hp.1.1.2 hst hp.1.2 hp.2 hr,h⟩
   ·obtain⟨⟨hp,hst⟩,h⟩:=h
    obtain⟨r,hr,h⟩:=opt_e h
    simp only[Y8,Ym,WS,YP]at hp
    exact⟨_,_,_,.of<|.neAgg t t' x y cs ds r hx hy hp.1.1.1 hp.1.1.2 hst hp.1.2 hp.2 hr,h⟩
   simp_all
  ·rename_i a b hx hy
   split at h
   ·exact⟨_,_,_,.of<|.cat t t' x y a b hx hy h.1,h.2⟩
   ·refine pv ?_
    obtain⟨v,hv,h⟩:=opt_e h
    refine opt_i v ?_ (by rw[Ze2];exact h)
    simp only[pval,hx,hy];exact hv
  ·refine pv ?_
   simp only[pval];exact h
 ·rename_i args ts
  obtain⟨t,ht,h⟩:=opt_e h
  obtain⟨x,hx,h⟩:=opt_e h
  split at h
  ·rename_i o z hev
   obtain⟨e,he,h⟩:=opt_e h
   obtain⟨rs,hrs,h⟩:=opt_e h
   obtain⟨y,hy,hy'⟩:=Zga hrs
   exact⟨_,_,_,.of<|.lenOsw x ts args t e o z y rs hx ht (ZgL he) hev hy hy',h⟩
  ·rename_i o hev
   split at h
   ·rename_i z fs hh ho
    obtain⟨hc,h⟩:=brn_t h
    exact⟨_,_,_,.of<|.files _ _ _ _ (.len x ts args t o z fs hh hx ht hc hev ho),h⟩
   simp_all
  ·obtain⟨v,hv,h⟩:=opt_e h
   exact⟨v,[],[],.of<|.pure _ v (by simp only[pval,ht,hx];exact hv),h⟩
 ·rename_i fn args ts
  split at h
  ·rename_i f cap hev
   rcases h with h|⟨⟨V,oin,argsC,rv,os',hf,hh,h⟩|⟨V,oin,argsC,rv,hf,hh,he,h⟩⟩
   rotate_left
   ·rw[Ze2]at h
    exact⟨_,_,_,.of<|.callG fn args ts f cap V oin argsC rv os' hev hh hf,h⟩
   ·rw[Ze2]at h
    refine⟨_,_,_,.same (.callG fn args ts f cap V oin argsC rv oin hev hh hf) (ZoA hh.keys he) (fun o ho=>?_),h⟩
    rcases ho with ho|ho
    ·exact ho
    ·obtain⟨e,he1,rfl⟩:=YK.1 ho
     unfold backU at he1
     rcases Yy.1 he1 with q|q
     ·obtain⟨x,hx,rfl⟩:=YK.1 q
      have hm:x.1∈List.range V.length:=by rw[←hh.keys];exact WM hx
      have hlt:=List.mem_range.1 hm
      show bk V id x.1∈V
      simp[bk,hlt]
     grind
   obtain⟨argsC,ha,h⟩:=opt_e h
   rw[fL_eq]at h
   obtain⟨rv,os',hf,h⟩:=h
   rcases h with ⟨hfl,rfl,h⟩|⟨V,hV,h⟩
   ·rw[Ze2]at h
    exact⟨_,_,_,.of<|.call fn args ts f cap ids 8 argsC rv hev ha hf hfl,h⟩
   ·obtain⟨U,hU,h⟩:=opt_e h
    rw[Ze2]at h
    exact⟨_,_,_,.of<|.callF fn args ts f cap V 8 argsC rv os' U hev hV hf hU,h⟩
  simp_all
 ·rcases h with h|⟨k,z,cs,hb,hk,h⟩
  ·exact pv h
  ·exact⟨_,_,_,.of<|.files _ _ _ _ (.buildV _ _ cs k z hb hk),h⟩
 ·exact bv h
 ·rcases brn_e h with ⟨_,h⟩|⟨_,h⟩
  ·obtain⟨v,U,RO,h1,h2⟩:=Zi2 h
   exact⟨v,U,RO,.of<|.files _ v U RO h1,h2⟩
  ·rcases brn_e h with ⟨_,h⟩|⟨_,h⟩
   all_goals simp_all
 ·exact bv h
 ·rcases h with h|h
  ·exact bv h
  ·obtain⟨v,U,RO,h1,h2⟩:=Zi2 h
   exact⟨v,U,RO,.of<|.files _ v U RO h1,h2⟩
 ·rename_i t
  rcases h with h|h
  ·exact bv h
  ·obtain⟨hc,h⟩:=brn_t h
   rcases h.h with ⟨z,h⟩|h
   ·exact⟨_,_,_,.of<|.files _ _ _ _ (.mk t z hc),h⟩
   ·exact⟨_,_,_,.of<|.graphs _ _ _ _ (.mk t hc),h⟩
 ·exact bv h
 ·exact fv h
 ·exact fv h
 ·exact fv h
 ·exact bv h
 ·obtain⟨v,U,RO,h1,h2⟩:=Zi2 h
  exact⟨v,U,RO,.of<|.files _ v U RO h1,h2⟩
 ·obtain⟨v,U,RO,h1,h2⟩:=Zi2 h
  exact⟨v,U,RO,.of<|.files _ v U RO h1,h2⟩
 ·obtain⟨v,U,RO,h1,h2⟩:=Zi2 h
  exact⟨v,U,RO,.of<|.files _ v U RO h1,h2⟩
 grind
def dstL(N:Sl):List Oper→Bool
 | []=>true
 |o::r=>(match o.dst with|some d=>(decide (N.lo≤d)&&decide (d<N.n))|none=>true)&&!Zjb o.op&&dstL N r
abbrev Lg:=List (List Nat×List Nat)
def logOf(log:Lg):Log:=fun k=>log.reverse.getD k ([],[])
def xops(P:Program)(G:Gmap)(ops:Array Oper)(nb:Nat):List Oper→Nat→Tm→Os→Lg→(Tm→Os→Lg→Prop)→Prop
 | [],_,g,os,log,K=>K g os log
 |o::r,i,g,os,log,K=>
  let go:Tm→Prop:=fun g=>fN (nb+i*W) fun id=>xop P G (evA G (lookG g)) (lk os) (os.map (·.1)) id o.type o.op fun v U RO=>fUp os U fun os=>
   match o.dst with
   |some d=>xops P G ops nb r (i+1) ((d,v)::g) os ((U.map (·.1),RO)::log) K
   |none=>xops P G ops nb r (i+1) g os ((U.map (·.1),RO)::log) K
  let no:Tm→Prop:=fun g=>
   match o.dst with
   |some d=>xops P G ops nb r (i+1) ((d,.tup [])::g) os (([],[])::log) K
   |none=>xops P G ops nb r (i+1) g os (([],[])::log) K
  match o.guard with
  |none=>go g
  |some (j,want)=>match (ops[j]?).bind (·.dst)with
   |some d=>match lookG g d with
    |.bool b=>brc b (match want with|true=>go ((d,.bool true)::g)|false=>no ((d,.bool true)::g))
     (match want with|true=>no ((d,.bool false)::g)|false=>go ((d,.bool false)::g))
    |.tup _=>no g
    |_=>False
   |none=>False
theorem Zg2{g:Tm}{d:Nat}{b:Bool}(h:lookG g d=.bool b):lookG ((d,.bool b)::g)=lookG g:=by
 funext t
 simp only[lookG];simp_all
theorem ZrV{P:Program}{G:Gmap}{N:Sl}{ops:Array Oper}{nb:Nat}:∀(l:List Oper) (i:Nat) (g:Tm) (os:Os) (log:Lg) (K:Tm→Os→Lg→Prop),
 (∀(k:Nat) o,l[k]? =some o→ops[i+k]? =some o)→dstL N l=true→log.length=i→xops P G ops nb l i g os log K→
 ∃g' os' ext,K g' os' (ext++log)∧ext.length=l.length∧∀L:Log,(∀k,i≤k→k<i+l.length→L k=logOf (ext++log) k)→
  RChain P G N ops nb L (List.range' i l.length) (toFS g os) (toFS g' os'):=by
 intro l
 induction l with
 |nil=>
  intro i g os log K _ _ _ h
  exact⟨g,os,[],h,rfl,fun L _=>.nil _⟩
 |cons o r ih=>
  intro i g os log K hl hdst hlog h
  have ho:ops[i]? =some o:=by simpa using hl 0 o rfl
  simp only[dstL,Y8]at hdst
  have hd:∀d,o.dst=some d→N.lo≤d∧d<N.n:=by
   intro d e
   have:=hdst.1.1
   rw[e]at this;simpa using this
  have hl':∀(k:Nat) o',r[k]? =some o'→ops[i+1+k]? =some o':=by
   intro k o' hk
   have:=hl (k+1) o' (by simp_all)
   rw[show i+1+k=i+(k+1) by omega];exact this
  have hlogL:∀(x:List Nat×List Nat) (ext:Lg),logOf (ext++x::log) i=x:=by
   intro x ext;unfold logOf
   rw[W4]
   simp only[List.reverse_append,List.reverse_cons,YE]
   rw[Yc (by grind)]
   simp[hlog]
  have go:∀g0:Tm,lookG g0=lookG g→wantA ops (lookG g) o=some true→
   (fN (nb+i*W) fun id=>xop P G (evA G (lookG g0)) (lk os) (os.map (·.1)) id o.type o.op fun v U RO=>fUp os U fun os=>
    match o.dst with
    |some d=>xops P G ops nb r (i+1) ((d,v)::g0) os ((U.map (·.1),RO)::log) K
    |none=>xops P G ops nb r (i+1) g0 os ((U.map (·.1),RO)::log) K)→
   ∃g' os' ext,K g' os' (ext++log)∧ext.length=(o::r).length∧∀L:Log,(∀k,i≤k→k<i+(o::r).length→L k=logOf (ext++log) k)→
    RChain P G N ops nb L (List.range' i (o::r).length) (toFS g os) (toFS g' os'):=by
   intro g0 hg0 hw hx;rw[fN_eq]at hx
   obtain⟨v,U,RO,hA,hK⟩:=ZsW hx
   rw[Zp3]at hK;rw[hg0]at hA
   have hK':xops P G ops nb r (i+1) (match o.dst with|some d=>(d,v)::g0|none=>g0) (updL os U) ((U.map (·.1),RO)::log) K:=by
    cases hdd:o.dst with
    |none=>simp_all
    |some d=>simp_all
   obtain⟨g',os',ext,h1,h2,h3⟩:=ih (i+1) _ _ _ K hl' hdst.2 (by grind) hK'
   refine⟨g',os',ext++[(U.map (·.1),RO)],by simp_all,by simp[h2],fun L hL=>?_⟩
   rw[Yf,List.range'_succ]
   have hL0:=hL i (Yg _) (by simp)
   rw[show ext++[(U.map (·.1),RO)]++log=ext++(U.map (·.1),RO)::log by simp,hlogL]at hL0
   refine .cons i _ _ _ _ (.run o v U RO ho hw hA hd hL0) ?_
   have:=h3 L (fun k hk1 hk2=>by
    grind)
   have e:(toFS g os).upd o.dst v U=toFS (match o.dst with|some d=>(d,v)::g0|none=>g0) (updL os U):=by
    rw[Znj];unfold toFS;congr 1
    cases o.dst with
    |none=>simp_all
    |some d=>funext t;simp only[lookG];rw[hg0]
   rw[e];exact this
  have no:∀g0:Tm,lookG g0=lookG g→wantA ops (lookG g) o=some false→
   (match o.dst with
    |some d=>xops P G ops nb r (i+1) ((d,.tup [])::g0) os (([],[])::log) K
    |none=>xops P G ops nb r (i+1) g0 os (([],[])::log) K)→
   ∃g' os' ext,K g' os' (ext++log)∧ext.length=(o::r).length∧∀L:Log,(∀k,i≤k→k<i+(o::r).length→L k=logOf (ext++log) k)→
    RChain P G N ops nb L (List.range' i (o::r).length) (toFS g os) (toFS g' os'):=by
   intro g0 hg0 hw hK
   have hK':xops P G ops nb r (i+1) (match o.dst with|some d=>(d,.tup [])::g0|none=>g0) os (([],[])::log) K:=by
    cases hdd:o.dst with
    |none=>simp_all
    |some d=>simp_all
   obtain⟨g',os',ext,h1,h2,h3⟩:=ih (i+1) _ _ _ K hl' hdst.2 (by grind) hK'
   refine⟨g',os',ext++[([],[])],by simp_all,by simp[h2],fun L hL=>?_⟩
   rw[Yf,List.range'_succ]
   have hL0:=hL i (Yg _) (by simp)
   rw[show ext++[(([]:List Nat),([]:List Nat))]++log=ext++([],[])::log by simp,hlogL]at hL0
   refine .cons i _ _ _ _ (.skip o ho hw hd hL0) ?_
   have:=h3 L (fun k hk1 hk2=>by
    grind)
   have e:(toFS g os).upd o.dst (.tup []) []=toFS (match o.dst with|some d=>(d,.tup [])::g0|none=>g0) os:=by
    rw[Znj];unfold toFS;congr 1
    cases o.dst with
    |none=>simp_all
    |some d=>funext t;simp only[lookG];rw[hg0]
   rw[e];exact this
  simp only[xops]at h
  cases hg:o.guard with
  |none=>
   rw[hg]at h
   exact go g rfl (by unfold wantA;rw[hg]) h
  |some jw=>
   obtain⟨j,want⟩:=jw
   rw[hg]at h;simp only at h
   cases hb:(ops[j]?).bind (·.dst)with
   |none=>simp_all
   |some d=>
    rw[hb]at h;simp only at h;split at h
    ·rename_i b hgd
     have hwant:wantA ops (lookG g) o=some (b==want):=by unfold wantA;rw[hg];simp only[hb,hgd]
     rcases brn_e h with ⟨hbb,h'⟩|⟨hbb,h'⟩
     ·subst hbb
      cases want with
      |true=>exact go _ (Zg2 hgd) hwant h'
      |false=>exact no _ (Zg2 hgd) hwant h'
     ·subst hbb
      cases want with
      |true=>exact no _ (Zg2 hgd) hwant h'
      |false=>exact go _ (Zg2 hgd) hwant h'
    ·rename_i vs hgd
     exact no g rfl (by unfold wantA;simp_all) h
    simp_all
inductive Frm where
 |code (c:Code)
 |blk (id:Nat)
 |stop (κ:Tm→Os→Nat→Prop)
def exitF(id:Nat):List Frm→Option (List Frm)
 | []=>none
 |.blk i::k=>if id=i then some k else exitF id k
 |_::k=>exitF id k
def ap:List (Nat×Nat)→Nat→Nat
 | [],o=>o
 |(k,x)::r,o=>if o=k then x else ap r o
def Cov(m:Nat)(g:Tm)(os:Os)(σ:List (Nat×Nat))(gx:Tm)(osx:Os)(nx:Nat):Prop:=
 (gx.all (fun e=>idsB nx e.2)&&osx.all (fun e=>decide (e.1<nx)&&idsBO nx e.2)&&decide ((osx.map fun e=>ap σ e.1).Nodup)&&decide (m≤nx)&&(List.range m).all (fun j=>ap σ j==j))=true∧
 WkL (gx.map fun e=>lookG g e.1) (gx.map fun e=>renAV (ap σ) e.2)∧
 WkOs (osx.map fun e=>lk os (ap σ e.1)) (osx.map fun e=>some (renO (ap σ) e.2))
structure Loops(m:Nat)(g:Tm)(os:Os)(body:(Tm→Os→Nat→Prop)→Tm→Os→Nat→Prop):Prop where
 h:∃(α:Type) (gx:α→Tm) (osx:α→Os) (nx:Nat) (I:α→Prop) (μ:α→Nat) (x0:α) (σ0:List (Nat×Nat)),
  I x0∧Cov m g os σ0 (gx x0) (osx x0) nx∧
  ∀x,I x→body (fun g' os' _=>∃x' σ,I x'∧μ x'<μ x∧Cov m g' os' σ (gx x') (osx x') nx) (gx x) (osx x) nx
theorem Zio{m:Nat}{g:Tm}{os:Os}{body:(Tm→Os→Nat→Prop)→Tm→Os→Nat→Prop}{α:Type}(gx:α→Tm)(osx:α→Os)(nx:Nat)(I:α→Prop)(μ:α→Nat)(x0:α)(σ0:List (Nat×Nat))(hI:I x0)
 (h2:(gx x0).map (fun e=>renAV (ap σ0) e.2)=(gx x0).map (fun e=>lookG g e.1)) (h3:(osx x0).map (fun e=>some (renO (ap σ0) e.2))=(osx x0).map fun e=>lk os (ap σ0 e.1))
 (h1:((gx x0).all (fun e=>idsB nx e.2)&&(osx x0).all (fun e=>decide (e.1<nx)&&idsBO nx e.2)&&decide (((osx x0).map fun e=>ap σ0 e.1).Nodup)&&decide (m≤nx)&&(List.range m).all (fun j=>ap σ0 j==j))=true)
 (hr:∀x,I x→body (fun g' os' _=>∃x' σ,I x'∧μ x'<μ x∧Cov m g' os' σ (gx x') (osx x') nx) (gx x) (osx x) nx):Loops m g os body:=
 ⟨α,gx,osx,nx,I,μ,x0,σ0,hI,⟨h1,.of_eq h2,.of_eq h3⟩,hr⟩
theorem ZhE{m:Nat}{α:Type}{gx:α→Tm}{osx:α→Os}{nx:Nat}{I:α→Prop}{μ:α→Nat}{x:α}{g':Tm}{os':Os}(x':α)(σ:List (Nat×Nat))(hI:I x')(hμ:μ x'<μ x)
 (h2:(gx x').map (fun e=>renAV (ap σ) e.2)=(gx x').map (fun e=>lookG g' e.1)) (h3:(osx x').map (fun e=>some (renO (ap σ) e.2))=(osx x').map fun e=>lk os' (ap σ e.1))
 (h1:((gx x').all (fun e=>idsB nx e.2)&&(osx x').all (fun e=>decide (e.1<nx)&&idsBO nx e.2)&&decide (((osx x').map fun e=>ap σ e.1).Nodup)&&decide (m≤nx)&&(List.range m).all (fun j=>ap σ j==j))=true):
 ∃x' σ,I x'∧μ x'<μ x∧Cov m g' os' σ (gx x') (osx x') nx:=⟨x',σ,hI,hμ,h1,.of_eq h2,.of_eq h3⟩
def Zpv:List Frm→Bool
 | []=>true
 |.stop _::_=>false
 |_::k=>Zpv k
def Zqv(W:World)(v:Value)(zs:List Int):Prop:=
 ∃a cap,v=.slice a zs.length cap∧∀(j:Nat) z,zs[j]? =some z→∃ad:Addr,a=some ad∧ad.spot=none∧W.cell? ⟨ad.block,ad.off+j,none⟩=some (.int .i64 z)
def Zqy(P:Program)(f:Nat):Prop:=callB P f=true∧
 ∀(l:Nat) (pa:Addr) (zs:List Int) (J:Nat→World→Prop) (W:World),zs.length≤LIM→(∀k W,J k W→∃v,W.cell? pa=some v∧Zqv W v zs)→
  (∀(k:Nat) (z:Int) (W:World),zs.reverse[k]? =some z→J k W→YieldAt Fence.wide 0 P l #[.int .i64 ((zs.length-1-k:Nat):Int),.int .i64 z] W fun e W'=>e=.returned (.bool true)∧J (k+1) W')→
  J 0 W→CallsIn Fence.wide 0 P f #[.func (.yield l) #[] #[],.pointer (some pa)] W fun e W'=>(∃v,e=.returned v)∧J zs.length W'
def setps(g:Tm)(p q:Nat)(i z:Int):Tm:=(q,.int .i64 z)::(p,.int .i64 i)::g
structure Zqt(P:Program)(N:Sl)(m:Nat)(g:Tm)(os:Os)(nx:Nat)(gv:AV)(ps:List Tmp)(X:Nat→Bool→(Tm→Os→Nat→Prop)→Tm→Os→Nat→Prop)(K:Tm→Os→Nat→Prop):Prop where
 h:∃(fB:Nat) (zs:List Int) (p q lo:Nat) (α:Type) (gx:Tm) (osx:α→Os) (nx':Nat) (I:Nat→α→Prop) (x0:α) (σ0:List (Nat×Nat)),
  Zqy P fB∧gv=.fn fB [.rp [.sl (zs.map fun z=>[.int .i64 z])] 0]∧ps=[p,q]∧
  (decide (lo≤p)&&decide (p<N.n)&&decide (lo≤q)&&decide (q<N.n)&&decide (p≠q)&&gx.all (fun e=>decide (e.1<lo)))=true∧
  I 0 x0∧Cov m g os σ0 gx (osx x0) nx'∧
  (∀(k:Nat) (z:Int) x,zs.reverse[k]? =some z→I k x→X lo false (fun g1 os1 nx1=>X lo true (fun g2 os2 _=>∃x' σ,I (k+1) x'∧Cov m g2 os2 σ gx (osx x') nx') g1 os1 nx1)
   (setps gx p q ((zs.length-1-k:Nat):Int) z) (osx x) nx')∧
  (∀x,I zs.length x→K gx (osx x) nx')
theorem Znt{P:Program}{N:Sl}{m:Nat}{g:Tm}{os:Os}{nx:Nat}{gv:AV}{ps:List Tmp}{X:Nat→Bool→(Tm→Os→Nat→Prop)→Tm→Os→Nat→Prop}{K:Tm→Os→Nat→Prop}
 (fB:Nat) (zs:List Int) (p q lo:Nat) {α:Type} (gx:Tm) (osx:α→Os) (nx':Nat) (I:Nat→α→Prop) (x0:α) (σ0:List (Nat×Nat))
 (hB:Zqy P fB) (hgv:gv=.fn fB [.rp [.sl (zs.map fun z=>[.int .i64 z])] 0]) (hps:ps=[p,q])
 (hd:(decide (lo≤p)&&decide (p<N.n)&&decide (lo≤q)&&decide (q<N.n)&&decide (p≠q)&&gx.all (fun e=>decide (e.1<lo)))=true) (hI:I 0 x0)
 (h2:WkL (gx.map fun e=>lookG g e.1) (gx.map fun e=>renAV (ap σ0) e.2)) (h3:WkOs ((osx x0).map fun e=>lk os (ap σ0 e.1)) ((osx x0).map fun e=>some (renO (ap σ0) e.2)))
 (h1:(gx.all (fun e=>idsB nx' e.2)&&(osx x0).all (fun e=>decide (e.1<nx')&&idsBO nx' e.2)&&decide (((osx x0).map fun e=>ap σ0 e.1).Nodup)&&decide (m≤nx')&&(List.range m).all (fun j=>ap σ0 j==j))=true)
 (hr:∀(k:Nat) (z:Int) x,zs.reverse[k]? =some z→I k x→X lo false (fun g1 os1 nx1=>X lo true (fun g2 os2 _=>∃x' σ,I (k+1) x'∧Cov m g2 os2 σ gx (osx x') nx') g1 os1 nx1)
  (setps gx p q ((zs.length-1-k:Nat):Int) z) (osx x) nx')
 (hK:∀x,I zs.length x→K gx (osx x) nx'):Zqt P N m g os nx gv ps X K:=
 ⟨fB,zs,p,q,lo,α,gx,osx,nx',I,x0,σ0,hB,hgv,hps,hd,hI,⟨h1,h2,h3⟩,hr,hK⟩
structure Joins(m:Nat)(body:(Tm→Os→Nat→Prop)→Prop)(K:Tm→Os→Nat→Prop):Prop where
 h:∃(R:Prop) (gx:Tm) (osx:Os) (nx:Nat),body (fun g' os' _=>R∧∃σ,Cov m g' os' σ gx osx nx)∧(R→K gx osx nx)
theorem Zlw{m:Nat}{body:(Tm→Os→Nat→Prop)→Prop}{K:Tm→Os→Nat→Prop}(R:Prop)(gx:Tm)(osx:Os)(nx:Nat)
 (hb:body (fun g' os' _=>R∧∃σ,Cov m g' os' σ gx osx nx)) (hk:R→K gx osx nx):Joins m body K:=⟨R,gx,osx,nx,hb,hk⟩
theorem end_i{m:Nat}{R:Prop}{gx:Tm}{osx:Os}{nx:Nat}{g':Tm}{os':Os}(hR:R)(σ:List (Nat×Nat))
 (h2:gx.map (fun e=>renAV (ap σ) e.2)=gx.map (fun e=>lookG g' e.1)) (h3:osx.map (fun e=>some (renO (ap σ) e.2))=osx.map fun e=>lk os' (ap σ e.1))
 (h1:(gx.all (fun e=>idsB nx e.2)&&osx.all (fun e=>decide (e.1<nx)&&idsBO nx e.2)&&decide ((osx.map fun e=>ap σ e.1).Nodup)&&decide (m≤nx)&&(List.range m).all (fun j=>ap σ j==j))=true):
 R∧∃σ,Cov m g' os' σ gx osx nx:=⟨hR,σ,h1,.of_eq h2,.of_eq h3⟩
theorem end_w{m:Nat}{R:Prop}{gx:Tm}{osx:Os}{nx:Nat}{g':Tm}{os':Os}(hR:R)(σ:List (Nat×Nat))
 (h2:WkL (gx.map fun e=>lookG g' e.1) (gx.map fun e=>renAV (ap σ) e.2)) (h3:WkOs (osx.map fun e=>lk os' (ap σ e.1)) (osx.map fun e=>some (renO (ap σ) e.2)))
 (h1:(gx.all (fun e=>idsB nx e.2)&&osx.all (fun e=>decide (e.1<nx)&&idsBO nx e.2)&&decide ((osx.map fun e=>ap σ e.1).Nodup)&&decide (m≤nx)&&(List.range m).all (fun j=>ap σ j==j))=true):
 R∧∃σ,Cov m g' os' σ gx osx nx:=⟨hR,σ,h1,h2,h3⟩
def arrOp(P:Program):Op→Bool
 |.indexAddr t _ (.tmp _)=>match P.underlying t with|some (.array ..)=>true|_=>false
 |.index t _ (.tmp _)=>match P.underlying t with|some (.array ..)=>true|_=>false
 |_=>false
def Zrc(P:Program):Code→Bool
 |.cond .. =>true
 |.block .. =>true
 |.region _ ops _=>ops.toList.any fun o=>o.guard.isSome||arrOp P o.op
 |_=>false
def orJ(j:Bool)(A B:Prop):Prop:=Bool.rec (motive:=fun _=>Prop) A (A∨B) j
theorem orJ_e{j:Bool}{A B:Prop}(h:orJ j A B):A∨B:=by
 cases j
 ·exact .inl h
 ·exact h
def xcode(P:Program)(G:Gmap):Sl→Nat→(Tm→Os→Prop)→Nat→List Frm→Tm→Os→Nat→Prop
 |_,_,_,0,_,_,_,_=>False
 |_,_,fin,_+1,[],g,os,_=>fin g os
 |N,m,fin,n+1,.blk _::k,g,os,nx=>xcode P G N m fin n k g os nx
 |_,_,_,_+1,.stop κ::_,g,os,nx=>κ g os nx
 |N,m,fin,n+1,.code c::k,g,os,nx=>
  orJ (Zrc P c) (match c with
  |.skip=>xcode P G N m fin n k g os nx
  |.seq a b=>xcode P G N m fin n (.code a::.code b::k) g os nx
  |.region _ ops draw=>brn (dstL N ops.toList) (xops P G ops nx ops.toList 0 g os [] fun g os log=>
   match draw with
   |false=>fN (nx+ops.size*W) fun nx=>xcode P G N m fin n k g os nx
   |true=>ZiC ops (logOf log)=true∧fN (nx+ops.size*W) fun nx=>xcode P G N m fin n k g os nx) False
  |.cond c x y=>match evA G (lookG g) c with
   |.bool b=>brc b (xcode P G N m fin n (.code x::k) g os nx) (xcode P G N m fin n (.code y::k) g os nx)
   |.anyb p=>(p→xcode P G N m fin n (.code x::k) g os nx)∧xcode P G N m fin n (.code y::k) g os nx
   |_=>False
  |.block id c=>xcode P G N m fin n (.code c::.blk id::k) g os nx
  |.exit id=>match exitF id k with
   |some k'=>xcode P G N m fin n k' g os nx
   |none=>False
  |.ret=>fin g os
  |.rangeFunc gop ps assign body=>(!N.no&&Zpv k)=true∧Zqt P N m g os nx (evA G (lookG g) gop) ps.toList
   (fun lo b κ g os nx=>xcode P G ⟨lo,N.n,true⟩ m (fun _ _=>False) n [.code (bif b then body else assign),.stop κ] g os nx)
   (fun g os nx=>xcode P G {N with no:=true} m fin n k g os nx)
  |.loop body=>Loops m g os fun κ=>xcode P G N m fin n (.code body::.stop κ::k)
  |_=>False) (Joins m (fun κ=>xcode P G N m fin n (.code c::.stop κ::k) g os nx) (xcode P G N m fin n k))
def KQ(P:Program)(C:Cx)(r:Option Nat)(B:Exit→Act→World→Prop):List Frm→Exit→Act→World→Prop
 | []=>B
 |.code c::k=>Exit.then (c.wpIn (WF r) 0 P (KQ P C r B k)) (KQ P C r B k)
 |.blk id::k=>Exit.inBlock id (KQ P C r B k)
 |.stop κ::k=>Exit.then (fun a w=>∃g os nx S ι,κ g os nx∧Inv C S ι (fun x=>nx≤x) (toFS g os) a w) (KQ P C r B k)
theorem ZsT{P:Program}{C:Cx}{r:Option Nat}{B:Exit→Act→World→Prop}{id:Nat}:∀{k k':List Frm},exitF id k=some k'→∀{a:Act} {w:World},KQ P C r B k' .normal a w→KQ P C r B k (.exit id) a w:=by
 intro k
 induction k with
 |nil=>intro k' h;simp[exitF]at h
 |cons f k ih=>
  intro k' h a w hq
  cases f with
  |code c=>exact ih (by simpa[exitF]using h) hq
  |stop κ=>exact ih (by simpa[exitF]using h) hq
  |blk i=>
   simp only[exitF]at h;simp only[KQ,Exit.inBlock]
   grind
theorem Ztq{P:Program}{C:Cx}{r:Option Nat}{B:Exit→Act→World→Prop}:∀{k:List Frm} {a:Act} {w:World},B .ret a w→KQ P C r B k .ret a w:=by
 intro k
 induction k with
 |nil=>intro a w h;exact h
 |cons f k ih=>intro a w h;cases f<;>exact ih h
theorem Zn3{r:Option Nat}{P:Program}{Q:Exit→Act→World→Prop}{c:Code}(I:Nat→Act→World→Prop)
 (round:∀n a w,I n a w→c.wpIn (WF r) 0 P (Exit.then (fun a' w'=>∃m,m<n∧I m a' w') Q) a w):∀n a w,I n a w→(Code.loop c).wpIn (WF r) 0 P Q a w:=by
 intro n a w hI
 have key:∀n a w,I n a w→∀(b:Frame) (k:List Item) (cs:List Frame),b.roundOf=r→
  ∃e a' w',Q e a' w'∧ArrivesIn (Machine.fenced P (WF r)) P (lone (b.atR a (.code c::.inLoop c::k)) cs w) b k cs e a' w':=by
  intro n
  induction n using Nat.strongRecOn with
  |_ n ih=>
   intro a w hI b k cs hro
   obtain⟨e,a₁,w₁,hq,harr⟩:=round n a w hI b (.inLoop c::k) cs hro trivial (roomW _ _)
   cases e with
   |normal=>
    obtain⟨m,hlt,hI₁⟩:=hq
    obtain⟨e₂,a₂,w₂,hq₂,harr₂⟩:=ih m hlt a₁ w₁ hI₁ b k cs hro
    exact⟨e₂,a₂,w₂,hq₂,.of_steps (StepsIn.trans harr (.one (fenced_wide P _) stepR_inLoop)) harr₂⟩
   |exit id=>exact⟨_,a₁,w₁,hq,.pass (x:=.inLoop c) rfl (fun _ _=>.inl (by simp)) harr⟩
   |goto l=>exact⟨_,a₁,w₁,hq,.pass (x:=.inLoop c) rfl (fun _ _=>.inl (by simp)) harr⟩
   |ret=>exact⟨_,a₁,w₁,hq,.pass (x:=.inLoop c) rfl (fun _ _=>.inl (by simp)) harr⟩
   |panic ch=>exact⟨_,a₁,w₁,hq,.pass (x:=.inLoop c) rfl (fun _ _=>.inl (by simp)) harr⟩
   |outgrown=>exact⟨_,a₁,w₁,hq,.pass (x:=.inLoop c) rfl (fun _ _=>.inl (by simp)) harr⟩
 intro b k cs hro _ _
 obtain⟨e,a',w',hq,harr⟩:=key n a w hI b k cs hro
 exact⟨e,a',w',hq,.of_steps (.one (fenced_wide P _) stepR_loop) harr⟩
theorem Exit.then_mono{r:Option Nat}{P:Program}{c:Code}{N1 N2:Act→World→Prop}{Q:Exit→Act→World→Prop}{a:Act}{w:World}
 (h:c.wpIn (WF r) 0 P (Exit.then N1 Q) a w) (hn:∀a w,N1 a w→N2 a w):c.wpIn (WF r) 0 P (Exit.then N2 Q) a w:=
 wpIn_mono h (fun e a w hq=>by cases e<;>first|exact hn a w hq|exact hq)
theorem Zkj{N:Sl}:∀{l:List Oper},dstL N l=true→∀o,o∈l→Zjb o.op=false:=by
 intro l
 induction l with
 |nil=>simp
 |cons x r ih=>
  intro h o ho;simp only[dstL,Y8]at h
  grind
theorem ZiL:∀{os:Os} {o:Nat} {x:AO},lk os o=some x→(o,x)∈os:=by
 intro os
 induction os with
 |nil=>intro o x h;simp[lk]at h
 |cons e r ih=>
  intro o x h;simp only[lk]at h
  grind
theorem Zmj:∀{g:Tm} {t:Nat},lookG g t=.undef∨(t,lookG g t)∈g:=by
 intro g
 induction g with
 |nil=>intro t;exact .inl rfl
 |cons e r ih=>
  intro t;simp only[lookG]
  grind
theorem ZoH{α:Type}{f g:α→AV}:∀{l:List α},WkL (l.map f) (l.map g)→∀x,x∈l→Wk (f x) (g x)
 | [],_,x,hx=>by cases hx
 |a::r,h,x,hx=>by
  cases hx with
  |head=>exact h.1
  |tail _ hx=>exact ZoH (l:=r) h.2 x hx
theorem Zng{α:Type}{f:α→Option AO}{g:α→AO}:∀{l:List α},WkOs (l.map f) (l.map fun e=>some (g e))→∀x,x∈l→∃y,f x=some y∧WkO y (g x)
 | [],_,x,hx=>by cases hx
 |a::r,h,x,hx=>by
  cases hf:f a with
  |none=>simp only[Yp,hf,WkOs]at h
  |some y=>
   simp only[Yp,hf,WkOs]at h
   cases hx with
   |head=>simp_all
   |tail _ hx=>exact Zng (l:=r) h.2 x hx
theorem Zpu{α β:Type}{f:α→β}:∀{l:List α},(l.map f).Nodup→∀x y,x∈l→y∈l→f x=f y→x=y:=by
 intro l
 induction l with
 |nil=>simp
 |cons a r ih=>
  grind
theorem Inv.cov{C:Cx}{S:Nat→Prop}{ι:Imap}{un:Nat→Prop}{g:Tm}{os:Os}{a:Act}{w:World}(h:Inv C S ι un (toFS g os) a w)
 {σ:List (Nat×Nat)} {gx:Tm} {osx:Os} {nx:Nat} (hc:Cov C.m g os σ gx osx nx):∃ι',Inv C S ι' (fun x=>nx≤x) (toFS gx osx) a w:=by
 obtain⟨hb,hg,ho⟩:=hc
 simp only[Y8,Ym]at hb
 obtain⟨⟨⟨⟨hb1,hb2⟩,hnd⟩,hmx⟩,hid⟩:=hb
 have hobj:∀o x,lk osx o=some x→(∃y,lk os (ap σ o)=some y∧WkO y (renO (ap σ) x))∧o<nx∧idsBO nx x=true:=by
  intro o x hx
  have hm:=ZiL hx
  have h1:=Zng ho (o,x) hm
  have h2:=YF.1 hb2 (o,x) hm
  simp only[Y8,Ym]at h2;exact⟨h1,h2.1,h2.2⟩
 have hback:∀o,o<nx→∀l,ιback ι (ap σ) nx o=some l→ι (ap σ o)=some l:=by
  intro o ho l hl;simp only[ιback]at hl;rw[if_pos ho]at hl;exact hl
 refine⟨ιback ι (ap σ) nx,?_,h.sz,h.df,?_,?_,?_,h.sb,h.sn,?_,h.fr,h.fo,h.gv,h.s0,fun j L e=>by
  have hjm:=C.i0m j L e
  have h1:=YF.1 hid j (List.mem_range.2 hjm)
  simp only[Vo]at h1;simp only[ιback]
  rw[if_pos (by omega),h1]
  exact h.hj j L e⟩
 ·intro t
  rcases Zmj (g:=gx) (t:=t)with hu|hm
  ·show Rep S w _ (lookG gx t) _
   rw[hu];exact .imm _ _ (.undef _)
  ·have h1:=ZoH hg _ hm
   simp only at h1
   have h2:=YF.1 hb1 _ hm
   refine Rep.unren _ _ h2 ?_
   show Rep S w ι (renAV (ap σ) (lookG gx t)) _
   exact h1.rep _ (h.tm t)
 ·intro o x hx
  obtain⟨⟨y,h1,hw⟩,h2,h3⟩:=hobj o x hx
  exact ObjOk.unren h2 h3 (hw.ok (h.ob _ _ h1))
 ·intro o x hx hlv l hl b hbb
  obtain⟨⟨y,h1,hw⟩,h2,h3⟩:=hobj o x hx
  exact h.own _ _ h1 (by rw[←hw.live,Zcq];exact hlv) l (hback o h2 _ hl) b (Zg3 hw hbb)
 ·intro o o' x x' hx hx' hlv hlv' l l' hl hl' b hbl hbl2
  obtain⟨⟨y,h1,hw⟩,h2,h3⟩:=hobj o x hx
  obtain⟨⟨y',h1',hw'⟩,h2',h3'⟩:=hobj o' x' hx'
  have:=h.inj _ _ _ _ h1 h1' (by rw[←hw.live,Zcq];exact hlv) (by rw[←hw'.live,Zcq];exact hlv') l l' (hback o h2 _ hl) (hback o' h2' _ hl') b (Zg3 hw hbl) (Zg3 hw' hbl2)
  have:=Zpu hnd (o,x) (o',x') (ZiL hx) (ZiL hx') this
  simp_all
 ·intro o hn
  simp only[ιback]
  grind
theorem ZmQ(n:Nat):List.range' 0 n=List.range n:=by rw[List.range_eq_range']
end Go.Ab
