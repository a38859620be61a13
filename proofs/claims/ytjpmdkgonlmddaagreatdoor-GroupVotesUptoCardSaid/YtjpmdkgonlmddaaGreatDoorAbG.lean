import Derived.Test.YtjpmdkgonlmddaaGreatDoorAbF
import Derived.Test.YtjpmdkgonlmddaaGreatDoorAbA
import Derived.TacticsIn
import Derived.RangeFuncCalls
set_option linter.unusedVariables false
namespace Go.Ab
def JI(op:Op):List Nat:=op.operands.toList.filterMap fun|.tmp t=>some t|_=>none
section
variable {P:Program}{G:db}{ev ea:Operand→AV}{ol iO:Nat→Option AO}
theorem DS{place:Nat→Option (Nat×Nat)}:∀(parts:List (Nat×Operand)) (cs:List AV),(∀x,x∈parts→ea x.2=ev x.2)→fp ea place parts cs=fp ev place parts cs:=by
 intro parts
 induction parts with
 |nil=>intro cs _;rfl
 |cons p r ih=>
  intro cs h
  obtain⟨i,x⟩:=p
  have hx:ea x=ev x:=h (i,x) (by simp)
  simp only[fp,hx];simp_all
theorem RF(t:TypeId)(parts:Array (Nat×Operand)){x:Nat×Operand}(hx:x∈parts.toList):x.2∈(Op.build t parts).operands.toList:=by
 simp only[Op.operands]
 grind
theorem L1{op:Op}(h:∀x,x∈op.operands.toList→ea x=ev x):eB P ea op=eB P ev op:=by
 have one:∀x,x∈op.operands.toList→ea x=ev x:=h
 cases op with
 |move x=>simp only[eB,one x (by simp[Op.operands])]
 |assign x=>simp only[eB,one x (by simp[Op.operands])]
 |fieldAddr s x i=>simp only[eB,one x (by simp[Op.operands])]
 |field s x i=>simp only[eB,one x (by simp[Op.operands])]
 |unOp op t x=>simp only[eB,one x (by simp[Op.operands])]
 |binOp op t x y t'=>simp only[eB,one x (by simp[Op.operands]),one y (by simp[Op.operands])]
 |extract t i=>simp only[eB,one t (by simp[Op.operands])]
 |build t parts=>
  simp only[eB,vP]
  have hp:∀x,x∈parts.toList→ea x.2=ev x.2:=fun x hx=>h x.2 (RF t parts hx)
  split
  ·rfl
  ·split
   ·split
    ·rw[DS _ _ hp]
    ·rfl
   ·split
    ·rw[DS _ _ hp]
    ·rfl
   ·rfl
 |makeFunc fn first cap=>
  cases fn with
  |func f=>
   simp only[eB]
   have h1:cap.toList.map ea=cap.toList.map ev:=Wt (fun x hx=>h x (by simp only[Op.operands];simp_all))
   have h2:first.toList.map ea=first.toList.map ev:=Wt (fun x hx=>h x (by simp only[Op.operands];simp_all))
   grind
  |_=>rfl
 |nilCheck x=>simp only[eB,one x (by simp[Op.operands])]
 |convert s d x=>simp only[eB,one x (by simp[Op.operands])]
 |call c=>
  obtain⟨callee,args,ts⟩:=c
  cases callee with
  |builtin b=>
   have iZ:∀x,x∈args.toList→ea x=ev x:=fun x hx=>h x (by simp only[Op.operands,Call.operands];simp_all)
   cases b with
   |len=>
    simp only[eB]
    grind
   |max=>
    simp only[eB]
    grind
   |min=>
    simp only[eB]
    grind
   |_=>rfl
  |_=>rfl
 |_=>rfl
theorem UT{α β:Type}{f g:α→Option β}:∀{l:List α},(∀x,x∈l→f x=g x)→ko f l=ko g l:=by
 intro l
 induction l with
 |nil=>intro _;rfl
 |cons a r ih=>intro h;simp only[ko];simp_all
theorem H2{V:List Nat}(h:∀o,o∈V→iO o=ol o):∀n,ft V iO n=ft V ol n:=by
 intro n
 induction n with
 |zero=>rfl
 |succ n ih=>
  funext x
  cases x with
  |an o z=>
   simp only[ft];simp_all
  |eN o off len room=>
   simp only[ft];simp_all
  |ptr o r c=>
   simp only[ft];simp_all
  |agg cs=>simp only[ft,ih]
  |bN cs=>simp only[ft,ih]
  |fn f cs=>simp only[ft,ih]
  |_=>rfl
theorem Um{V:List Nat}(h:∀o,o∈V→iO o=ol o)(n:Nat):frozen V iO n=frozen V ol n:=by
 unfold frozen
 exact UT (fun o ho=>by rw[h o ho,H2 h n])
theorem LB{o:Option Operand}{d n:Nat}(h:∀x,o=some x→ea x=ev x)(hb:fq ev o d n):fq ea o d n:=by
 cases o with
 |none=>exact hb
 |some x=>
  obtain⟨k,i,h1,h2⟩:=hb
  exact⟨k,i,by simp_all,h2⟩
theorem Bi{x:AV}{q:Bool×List (List AV)×List Nat}(hx:dd ol x=some q)(h:∀o,o∈q.2.2→iO o=ol o):dd iO x=some q:=by
 cases x with
 |an o z=>
  have key:iO o=ol o→dd iO (.an o z)=some q:=by intro e;simp only[dd,e]at hx⊢;exact hx
  simp only[dd]at hx
  grind
 |eN o a b c=>
  have key:iO o=ol o→dd iO (.eN o a b c)=some q:=by intro e;simp only[dd,e]at hx⊢;exact hx
  simp only[dd]at hx
  grind
 |_=>exact hx
theorem dR.local{id:Nat}{op:Op}{v:AV}{U:List (Nat×Option AO)}{RO:List Nat}(h:dR P ev ol id op v U RO)
 (hev:∀x,x∈op.operands.toList→ea x=ev x) (hol:∀o,o∈RO∨o∈U.map (·.1)→iO o=ol o):dR P ea iO id op v U RO:=by
 have ky:∀{t x lo hi mx},op=.slice t x lo hi mx→(ea x=ev x)∧(∀d n,fq ev lo d n→fq ea lo d n)∧(∀d n,fq ev hi d n→fq ea hi d n)∧(∀y,hi=some y→ea y=ev y)∧(∀y,mx=some y→ea y=ev y):=by
  intro t x lo hi mx e;subst e
  have hx:=hev x (by simp[Op.operands])
  have hlo:∀y,lo=some y→ea y=ev y:=fun y e=>by subst e;exact hev y (by simp[Op.operands])
  have Jc:∀y,hi=some y→ea y=ev y:=fun y e=>by subst e;exact hev y (by simp[Op.operands])
  have I':∀y,mx=some y→ea y=ev y:=fun y e=>by subst e;exact hev y (by simp[Op.operands])
  exact⟨hx,fun d n=>LB hlo,fun d n=>LB Jc,Jc,I'⟩
 cases h with
 |nB t x lo hi l a b hx ht ha hb gr hbl=>
  obtain⟨e1,e2,e3,_⟩:=ky rfl
  exact .nB t x lo hi l a b (by simp_all) ht (e2 _ _ ha) (e3 _ _ hb) gr hbl
 |sa t x lo hi xs a b sz hx ht hl ha hb gr hbl=>
  obtain⟨e1,e2,e3,_⟩:=ky rfl
  exact .sa t x lo hi xs a b sz (by simp_all) ht hl (e2 _ _ ha) (e3 _ _ hb) gr hbl
 |lu t x lo hh m k k' q sz hs hx ht ha h1 h2=>
  obtain⟨e1,e2,e3,e4,e5⟩:=ky rfl
  exact .lu t x lo hh m k k' q sz (by simp_all) (by rw[e1];exact Bi hx (fun o ho=>hol o (.inl ho))) ht (e2 _ _ ha) (by simp_all) (by simp_all)
 |nC t x lo hi o z a b sz y rs hx ho hy hr ht ha hb gr hbl=>
  obtain⟨e1,e2,e3,_⟩:=ky rfl
  exact .nC t x lo hi o z a b sz y rs (by simp_all) (by simp_all) hy hr ht (e2 _ _ ha) (e3 _ _ hb) gr hbl
 |sQ t x hi o z b rs hx ho hr ht hb hbl=>
  obtain⟨e1,e2,e3,_⟩:=ky rfl
  exact .sQ t x hi o z b rs (by simp_all) (by simp_all) hr ht (e3 _ _ hb) hbl
 |nD t x lo hi o off len room a b sz y rs hx ho hy hr ht ha hb gr hbl kX=>
  obtain⟨e1,e2,e3,_⟩:=ky rfl
  exact .nD t x lo hi o off len room a b sz y rs (by simp_all) (by simp_all) hy hr ht (e2 _ _ ha) (e3 _ _ hb) gr hbl kX
 |sk t l c k k' n m z sz hl hc h0 h1 h2 ht hz=>
  exact .sk t l c k k' n m z sz (by rw[hev l (by simp[Op.operands])];exact hl) (by rw[hev c (by simp[Op.operands])];exact hc) h0 h1 h2 ht hz
 |oc t len parts z cs sz ht hz hlim il hcl eg hf=>
  refine .oc t len parts z cs sz ht hz hlim il hcl eg ?_
  rw[DS _ _ (fun x hx=>hev x.2 (by simp only[Op.operands];grind))]
  exact hf
 |qC t tx s x q sz hs hx ht j4 hr hlim=>
  refine .qC t tx s x q sz (by rw[hev s (by simp[Op.operands,Call.operands])];exact hs) ?_ ht j4 hr hlim
  rw[hev x (by simp[Op.operands,Call.operands])]
  exact Bi hx (fun o ho=>hol o (.inl ho))
 |qB t tx s x q sz o z p rs hs hz ho hx ht j4 hr lT hlim=>
  refine .qB t tx s x q sz o z p rs (by rw[hev s (by simp[Op.operands,Call.operands])];exact hs) hz (by simp_all) ?_ ht j4 hr lT hlim
  rw[hev x (by simp[Op.operands,Call.operands])]
  exact Bi hx (fun o ho=>hol o (.inl ho))
 |dQ s d x l hx ht hl=>exact .dQ s d x l (by rw[hev x (by simp[Op.operands])];exact hx) ht hl
 |toStr s d x l q hs hx hl ht=>
  have e1:=hev x (by simp[Op.operands])
  exact .toStr s d x l q (by simp_all) (by rw[e1];exact Bi hx (fun o ho=>hol o (.inl ho))) hl ht
 |mkMap t h=>exact .mkMap t h
 |lx t x k n h hx=>exact .lx t x k n h (by rw[hev x (by simp[Op.operands])];exact hx)
 |ik _ t kt m k x cu o pf es r hm ho ht hk hr hlim vx IZ=>
  have e1:ea m=ev m:=hev m (by rcases cu with rfl|rfl<;>simp[Op.operands])
  have e2:ea k=ev k:=hev k (by rcases cu with rfl|rfl<;>simp[Op.operands])
  have e3:ea x=ev x:=hev x (by rcases cu with rfl|rfl<;>simp[Op.operands])
  have:=dR.ik (P:=P) (ev:=ea) (ol:=iO) (id:=id) op t kt m k x cu o pf es r (by simp_all) (by simp_all) ht (by simp_all) (by simp_all) hlim vx (by simp_all)
  simp_all
 |look t kt m k ok o pf es r v hm ho ht hk hr hv=>
  have e1:ea m=ev m:=hev m (by simp[Op.operands])
  have e2:ea k=ev k:=hev k (by simp[Op.operands])
  exact .look t kt m k ok o pf es r v (by simp_all) (by simp_all) ht (by simp_all) (by simp_all) hv
 |nL t kt vt m k ok v hm ht hk jt hz=>
  have e1:ea m=ev m:=hev m (by simp[Op.operands])
  have e2:ea k=ev k:=hev k (by simp[Op.operands])
  exact .nL t kt vt m k ok v (by simp_all) ht (by simp_all) jt hz
theorem dZ.local{id:Nat}{op:Op}{v:AV}{U:List (Nat×Option AO)}{RO:List Nat}(h:dZ P ev ol id op v U RO)
 (hev:∀x,x∈op.operands.toList→ea x=ev x) (hol:∀o,o∈RO∨o∈U.map (·.1)→iO o=ol o):dZ P ea iO id op v U RO:=by
 cases h with
 |look t kt m k ok o z fs i e hm ho ht hk hr he=>
  have e1:ea m=ev m:=hev m (by simp[Op.operands])
  have e2:ea k=ev k:=hev k (by simp[Op.operands])
  exact .look t kt m k ok o z fs i e (by simp_all) (by simp_all) ht (by simp_all) (by simp_all) he
 |se t kt m k o z fs h r hm ho ht hk hr hz=>
  have e1:ea m=ev m:=hev m (by simp[Op.operands])
  have e2:ea k=ev k:=hev k (by simp[Op.operands])
  exact .se t kt m k o z fs h r (by simp_all) (by simp_all) ht (by simp_all) (by simp_all) hz
 |gB t kt m k ok o z fs h v hm ho ht hk hr hv=>
  have e1:ea m=ev m:=hev m (by simp[Op.operands])
  have e2:ea k=ev k:=hev k (by simp[Op.operands])
  exact .gB t kt m k ok o z fs h v (by simp_all) (by simp_all) ht (by simp_all) (by simp_all) hv
 |eO _ t kt m k x cu o z q fs h r rs hm ho ht hk hr hh hlim hx hq hl hz hne=>
  have e1:ea m=ev m:=hev m (by rcases cu with rfl|rfl<;>simp[Op.operands])
  have e2:ea k=ev k:=hev k (by rcases cu with rfl|rfl<;>simp[Op.operands])
  have e3:ea x=ev x:=hev x (by rcases cu with rfl|rfl<;>simp[Op.operands])
  have:=dZ.eO (P:=P) (ev:=ea) (ol:=iO) (id:=id) op t kt m k x cu o z q fs h r rs (by simp_all) (by simp_all) ht (by simp_all) (by simp_all) hh hlim (by simp_all) (by simp_all) hl hz hne
  simp_all
 |del t tk kt m k o z fs h r hm ho ht hk hr hh=>
  have e1:ea m=ev m:=hev m (by simp[Op.operands,Call.operands])
  have e2:ea k=ev k:=hev k (by simp[Op.operands,Call.operands])
  exact .del t tk kt m k o z fs h r (by simp_all) (by simp_all) ht (by simp_all) (by simp_all) hh
 |copy t ts d s o off len p rs q sz ho hdst hs ht hr lT=>
  have e1:ea d=ev d:=hev d (by simp[Op.operands,Call.operands])
  have e2:ea s=ev s:=hev s (by simp[Op.operands,Call.operands])
  have ru:iO o=some (.rows p rs):=by rw[hol o (by simp)];exact ho
  refine .copy t ts d s o off len p rs q sz ru (by simp_all) ?_ ht hr lT
  rw[e2];exact Bi hs (fun o ho=>hol o (.inl ho))
 |qv t tk kt m k o p es r hm ho ht hk hr=>
  have e1:ea m=ev m:=hev m (by simp[Op.operands,Call.operands])
  have e2:ea k=ev k:=hev k (by simp[Op.operands,Call.operands])
  exact .qv t tk kt m k o p es r (by simp_all) (by simp_all) ht (by simp_all) (by simp_all)
 |len x ts args t o z fs h ha mI ht hx ho=>
  exact .len x ts args t o z fs h ha mI ht (by rw[hev x (by simp only[Op.operands,Call.operands];grind)];exact hx) (by simp_all)
 |nG t t' e x o z p rs hx ho ht=>exact .nG t t' e x o z p rs (by rw[hev x (by simp[Op.operands])];exact hx) (by simp_all) ht
 |Av t x o off len room p rs z sz h ho ht hz hr kX=>
  exact .Av t x o off len room p rs z sz (by rw[hev x (by simp[Op.operands,Call.operands])];exact h) (by simp_all) ht hz hr kX
 |mk t z h=>exact .mk t z h
 |so t len parts z cs ht hz h1 h2 h3 h4 h5 h6 hf=>
  refine .so t len parts z cs ht hz h1 h2 h3 h4 h5 h6 ?_
  rw[DS _ _ (fun x hx=>hev x.2 (by simp only[Op.operands];grind))];exact hf
 |lK t cs k z hz hk=>exact .lK t cs k z hz hk
 |sT t x cs k z hc hk=>exact .sT t x cs k z (by rw[hev x (by simp[Op.operands])];exact hc) hk
 |lJ t parts cs k z hb hk=>
  have e:eB P ea (.build t parts)=eB P ev (.build t parts):=L1 hev
  simp only[eB]at e
  exact .lJ t parts cs k z (by simp_all) hk
 |CT s d x o rs hx ho ht=>exact .CT s d x o rs (by rw[hev x (by simp[Op.operands])];exact hx) (by simp_all) ht
theorem GStep.local{id:Nat}{op:Op}{v:AV}{U:List (Nat×Option AO)}{RO:List Nat}(h:GStep P ev ol id op v U RO)
 (hev:∀x,x∈op.operands.toList→ea x=ev x) (hol:∀o,o∈RO∨o∈U.map (·.1)→iO o=ol o):GStep P ea iO id op v U RO:=by
 cases h with
 |look t kt m k ok o es i e hm ho ht hk hr he hW=>
  have e1:ea m=ev m:=hev m (by simp[Op.operands])
  have e2:ea k=ev k:=hev k (by simp[Op.operands])
  exact .look t kt m k ok o es i e (by simp_all) (by simp_all) ht (by simp_all) (by simp_all) he hW
 |same t kt m k ok o q es i hm ho ht hk hr=>
  have e1:ea m=ev m:=hev m (by simp[Op.operands])
  have e2:ea k=ev k:=hev k (by simp[Op.operands])
  exact .same t kt m k ok o q es i (by simp_all) (by simp_all) ht (by simp_all) (by simp_all)
 |gB t kt m k ok o es h v hm ho ht hk hr hv=>
  have e1:ea m=ev m:=hev m (by simp[Op.operands])
  have e2:ea k=ev k:=hev k (by simp[Op.operands])
  exact .gB t kt m k ok o es h v (by simp_all) (by simp_all) ht (by simp_all) (by simp_all) hv
 |put _ t kt m k x cu o q es hm ho ht hk hr hlim hx g0=>
  have e1:ea m=ev m:=hev m (by rcases cu with rfl|rfl<;>simp[Op.operands])
  have e2:ea k=ev k:=hev k (by rcases cu with rfl|rfl<;>simp[Op.operands])
  have e3:ea x=ev x:=hev x (by rcases cu with rfl|rfl<;>simp[Op.operands])
  have:=GStep.put (P:=P) (ev:=ea) (ol:=iO) (id:=id) op t kt m k x cu o q es (by simp_all) (by simp_all) ht (by simp_all) (by simp_all) hlim (by simp_all) g0
  simp_all
 |mk t h=>exact .mk t h
theorem cA.local{id:Nat}{op:Op}{v:AV}{U:List (Nat×Option AO)}{RO:List Nat}(h:cA P G ev ol id op v U RO)
 (hev:∀x,x∈op.operands.toList→ea x=ev x) (hol:∀o,o∈RO∨o∈U.map (·.1)→iO o=ol o):cA P G ea iO id op v U RO:=by
 cases h with
 |more op v U RO h=>exact .more op v U RO (h.local hev hol)
 |files op v U RO h=>exact .files op v U RO (h.local hev hol)
 |jr op v U RO h=>exact .jr op v U RO (h.local hev hol)
 |pure op v h=>exact .pure op v (by rw[L1 hev];exact h)
 |nil z=>exact .nil z
 |pick c a b t h=>
  have hc:=hev c (by simp[Op.operands])
  have:=cA.pick (P:=P) (G:=G) (ev:=ea) (ol:=iO) (id:=id) c a b t (by simp_all)
  rw[hev a (by simp[Op.operands]),hev b (by simp[Op.operands])]at this
  exact this
 |alloc t cs h=>exact .alloc t cs h
 |box t x cs h=>exact .box t x cs (by rw[hev x (by simp[Op.operands])];exact h)
 |load t a o i c p rs row v h ho hr hl=>exact .load t a o i c p rs row v (by rw[hev a (by simp[Op.operands])];exact h) (by simp_all) hr hl
 |nN t a o i c rs row v h ho hr hl=>exact .nN t a o i c rs row v (by rw[hev a (by simp[Op.operands])];exact h) (by simp_all) hr hl
 |nM t a row c v h hl=>exact .nM t a row c v (by rw[hev a (by simp[Op.operands])];exact h) hl
 |store t a x o i c p rs row cs b n h ho hr hc hk hn hb=>
  exact .store t a x o i c p rs row cs b n (by rw[hev a (by simp[Op.operands])];exact h) (by simp_all) hr (by rw[hev x (by simp[Op.operands])];exact hc) hk hn hb
 |lp t a x o i c p rs row b q z xs h ho hr hx hq hne hk hb=>
  exact .lp t a x o i c p rs row b q z xs (by rw[hev a (by simp[Op.operands])];exact h) (by simp_all) hr (by rw[hev x (by simp[Op.operands])];exact hx) (by simp_all) hne hk hb
 |lr t a x o i c p rs row b z h ho hr hx hk hb=>
  exact .lr t a x o i c p rs row b z (by rw[hev a (by simp[Op.operands])];exact h) (by simp_all) hr (by rw[hev x (by simp[Op.operands])];exact hx) hk hb
 |nR t e x ix xs k n row b h hi h0 hr ht hk=>exact .nR t e x ix xs k n row b (by rw[hev x (by simp[Op.operands])];exact h) (by rw[hev ix (by simp[Op.operands])];exact hi) h0 hr ht hk
 |lA t e x ix o z k n y rs row b h hi h0 ho hy hr ht hk=>
  exact .lA t e x ix o z k n y rs row b (by rw[hev x (by simp[Op.operands])];exact h) (by rw[hev ix (by simp[Op.operands])];exact hi) h0 (by simp_all) hy hr ht hk
 |lB t e x ix o off len room k n y rs row b h hi h0 h1 ho hy hr ht hk=>
  exact .lB t e x ix o off len room k n y rs row b (by rw[hev x (by simp[Op.operands])];exact h) (by rw[hev ix (by simp[Op.operands])];exact hi) h0 h1 (by simp_all) hy hr ht hk
 |lC t e x ix o r c len sz k n b h hi h0 h1 ht hk=>exact .lC t e x ix o r c len sz k n b (by rw[hev x (by simp[Op.operands])];exact h) (by rw[hev ix (by simp[Op.operands])];exact hi) h0 h1 ht hk
 |jC t e x ix row c len sz k n b h hi h0 h1 ht hk=>exact .jC t e x ix row c len sz k n b (by rw[hev x (by simp[Op.operands])];exact h) (by rw[hev ix (by simp[Op.operands])];exact hi) h0 h1 ht hk
 |nA t x ix l k n c h hi h0 hr ht=>exact .nA t x ix l k n c (by rw[hev x (by simp[Op.operands])];exact h) (by rw[hev ix (by simp[Op.operands])];exact hi) h0 hr ht
 |od t e x ix cs len sz k n b v h hi h0 h1 ht hk hl=>exact .od t e x ix cs len sz k n b v (by rw[hev x (by simp[Op.operands])];exact h) (by rw[hev ix (by simp[Op.operands])];exact hi) h0 h1 ht hk hl
 |quo t t' x y k a b hx hy h0=>exact .quo t t' x y k a b (by rw[hev x (by simp[Op.operands])];exact hx) (by rw[hev y (by simp[Op.operands])];exact hy) h0
 |rem t t' x y k a b hx hy h0=>exact .rem t t' x y k a b (by rw[hev x (by simp[Op.operands])];exact hx) (by rw[hev y (by simp[Op.operands])];exact hy) h0
 |shl t t' x y k k' a b hx hy h0=>exact .shl t t' x y k k' a b (by rw[hev x (by simp[Op.operands])];exact hx) (by rw[hev y (by simp[Op.operands])];exact hy) h0
 |shr t t' x y k k' a b hx hy h0=>exact .shr t t' x y k k' a b (by rw[hev x (by simp[Op.operands])];exact hx) (by rw[hev y (by simp[Op.operands])];exact hy) h0
 |cat t t' x y a b hx hy h=>exact .cat t t' x y a b (by rw[hev x (by simp[Op.operands])];exact hx) (by rw[hev y (by simp[Op.operands])];exact hy) h
 |nY t t' x y cs ds r hx hy hp hg hst hc hd h=>
  exact .nY t t' x y cs ds r (by rw[hev x (by simp[Op.operands])];exact hx) (by rw[hev y (by simp[Op.operands])];exact hy) hp hg hst hc hd h
 |nI t t' x y cs ds r hx hy hp hg hst hc hd h=>
  exact .nI t t' x y cs ds r (by rw[hev x (by simp[Op.operands])];exact hx) (by rw[hev y (by simp[Op.operands])];exact hy) hp hg hst hc hd h
 |si t t' e x xs hx ht=>exact .si t t' e x xs (by rw[hev x (by simp[Op.operands])];exact hx) ht
 |jX x ts args t e o z y rs ha mI ht h ho hy=>
  exact .jX x ts args t e o z y rs ha mI ht (by rw[hev x (by simp only[Op.operands,Call.operands];grind)];exact h) (by simp_all) hy
 |call fn args ts f cap V n bD rv h hv hf hfl=>
  have hm:args.toList.map ea=args.toList.map ev:=Wt (fun x hx=>hev x (by simp only[Op.operands,Call.operands];simp_all))
  refine .call fn args ts f cap _ n bD _ (by rw[hev fn (by simp[Op.operands,Call.operands])];exact h) ?_ hf hfl
  rw[hm,H2 (fun o ho=>hol o (.inl ho))];exact hv
 |mB fn args ts f cap V n bD rv os' U h hv hf hU=>
  have hm:args.toList.map ea=args.toList.map ev:=Wt (fun x hx=>hev x (by simp only[Op.operands,Call.operands];simp_all))
  refine .mB fn args ts f cap _ n bD rv os' U (by rw[hev fn (by simp[Op.operands,Call.operands])];exact h) ?_ hf ?_
  ·rw[hm,H2 (fun o ho=>hol o (.inl ho))];exact hv
  ·rw[Um (fun o ho=>hol o (.inl ho))];exact hU
 |k9 fn args ts f cap _ oin bD rv os' h hh hf=>
  have hm:args.toList.map ea=args.toList.map ev:=Wt (fun x hx=>hev x (by simp only[Op.operands,Call.operands];simp_all))
  refine .k9 fn args ts f cap _ oin bD rv os' (by rw[hev fn (by simp[Op.operands,Call.operands])];exact h) ?_ hf
  refine⟨hh.ok,hh.keys,?_,by rw[hm];exact hh.args⟩
  have e:RO.map iO=RO.map ol:=Wt (fun o ho=>hol o (.inl ho))
  rw[e];exact hh.EU
inductive gZ(P:Program)(G:db)(ev:Operand→AV)(ol:Nat→Option AO)(id:Nat)(op:Op):AV→List (Nat×Option AO)→List Nat→Prop
 |of {v:AV} {U:List (Nat×Option AO)} {RO:List Nat} (h:cA P G ev ol id op v U RO):gZ P G ev ol id op v U RO
 |same {v:AV} {U:List (Nat×Option AO)} {RO No:List Nat} (h:cA P G ev ol id op v U RO) (hs:ay ol U=ol) (hr:∀o,o∈RO∨o∈U.map (·.1)→o∈No):gZ P G ev ol id op v [] No
theorem Qj{os1 os2:Nat→Option AO}{o:Nat}:∀{V:List (Nat×Option AO)},o∈V.map (·.1)→ay os1 V o=ay os2 V o:=by
 intro V
 induction V with
 |nil=>simp
 |cons e r ih=>
  intro h;simp only[ay]
  grind
theorem KA{os:Nat→Option AO}:∀{U:List (Nat×Option AO)} {o:Nat},o∉U.map (·.1)→ay os U o=os o:=by
 intro U
 induction U with
 |nil=>intro o _;rfl
 |cons e r ih=>
  intro o h;simp only[Yp,Yh,not_or]at h;simp only[ay,h.1,Yc]
  grind
theorem TI{ol iO:Nat→Option AO}{U:List (Nat×Option AO)}(hs:ay ol U=ol)(hk:∀o,o∈U.map (·.1)→iO o=ol o):ay iO U=iO:=by
 funext o
 by_cases ho:o∈U.map (·.1)
 ·rw[Qj (os2:=ol) ho,hs,hk o ho]
 ·rw[KA ho]
theorem gZ.local{id:Nat}{op:Op}{v:AV}{U:List (Nat×Option AO)}{RO:List Nat}(h:gZ P G ev ol id op v U RO)
 (hev:∀x,x∈op.operands.toList→ea x=ev x) (hol:∀o,o∈RO∨o∈U.map (·.1)→iO o=ol o):gZ P G ea iO id op v U RO:=by
 cases h with
 |of h=>exact .of (h.local hev hol)
 |same h hs hr=>exact .same (h.local hev (fun o ho=>hol o (.inl (hr o ho)))) (TI hs (fun o ho=>hol o (.inl (hr o (.inr ho))))) hr
theorem TK{os:Nat→Option AO}{A B:List (Nat×Option AO)}(h:∀e,e∈A→os e.1=e.2)(hB:∀e,e∈B→e.1∈A.map (·.1)):ay os (A++B)=os:=by
 funext o
 by_cases ho:o∈A.map (·.1)
 ·clear hB
  induction A with
  |nil=>simp at ho
  |cons e r ih=>
   simp only[YJ,ay]
   grind
 ·refine KA ?_
  grind
theorem TO{V:List Nat}{id:Nat}{ol:Nat→Option AO}{oin:List (Nat×AO)}(h2:oin.map (·.1)=List.range V.length)(h3:oin.map (fun e=>some (cC (bk V id) e.2))=V.map ol):
 ay ol (gm V id oin)=ol:=by
 have hl:oin.length=V.length:=by simpa using YF List.length h2
 have hk:∀(j:Nat) (hj:j<oin.length),oin[j].1=j:=fun j hj=>by
  have:(oin.map (·.1))[j]? =some oin[j].1:=by rw[Yn,Y3 hj];rfl
  grind
 refine TK (fun e he=>?_) (fun e he=>?_)
 ·obtain⟨x,hx,rfl⟩:=YM.1 he
  obtain⟨j,hj,rfl⟩:=Wg hx
  have e1:bk V id oin[j].1=V[j]'(by omega):=by rw[hk j hj];simp[bk,show j<V.length by omega]
  have e2:(V.map ol)[j]? =some (ol (V[j]'(by omega))):=by rw[Yn,Y3 (by omega)];rfl
  grind
 ·obtain⟨o,ho,rfl⟩:=YM.1 he
  obtain⟨j,hj,rfl⟩:=Wg ho
  rw[YP]
  refine YM.2 ⟨oin[j]'(by omega),Wb _,?_⟩
  show bk V id _=V[j]
  rw[hk j (by omega)];simp[bk,hj]
end
def fW(ops:Array Oper)(g:Nat→AV)(o:Oper):Option Bool:=
 match o.guard with
 |none=>some true
 |some (j,want)=>match (ops[j]?).bind (·.dst)with
  |some d=>match g d with
   |.bool b=>some (b==want)
   |.bN _=>some false
   |_=>none
  |none=>none
def wg(ops:Array Oper)(o:Oper):List Nat:=
 o.dst.toList++(JI o.op++(match o.guard with|none=>[]|some (j,_)=>((ops[j]?).bind (·.dst)).toList))
abbrev Log:=Nat→List Nat×List Nat
inductive iq(P:Program)(G:db)(N:Sl)(ops:Array Oper)(nb:Nat)(L:Log)(f:FS)(i:Nat):FS→Prop
 |run (o:Oper) (v:AV) (U:List (Nat×Option AO)) (RO:List Nat) (ho:ops[i]? =some o) (hw:fW ops f.g o=some true)
  (h:gZ P G (gD G f.g) f.os (nb+i*W) o.op v U RO) (hd:∀d,o.dst=some d→N.lo≤d∧d<N.n) (hL:L i=(U.map (·.1),RO)):iq P G N ops nb L f i (f.eO o.dst v U)
 |skip (o:Oper) (ho:ops[i]? =some o) (hw:fW ops f.g o=some false) (hd:∀d,o.dst=some d→N.lo≤d∧d<N.n) (hL:L i=([],[])):iq P G N ops nb L f i (f.eO o.dst (.bN []) [])
inductive ew(P:Program)(G:db)(N:Sl)(ops:Array Oper)(nb:Nat)(L:Log):List Nat→FS→FS→Prop
 |nil (f:FS):ew P G N ops nb L [] f f
 |cons (i:Nat) (l:List Nat) (f f1 f2:FS) (h:iq P G N ops nb L f i f1) (hr:ew P G N ops nb L l f1 f2):ew P G N ops nb L (i::l) f f2
def oR(a b:List Nat):Bool:=a.all fun x=>!b.contains x
def C3(ops:Array Oper)(L:Log)(i j:Nat):Bool:=
 match ops[i]?,ops[j]? with
 |some a,some b=>
  oR a.dst.toList (wg ops b)&&oR b.dst.toList (wg ops a)&&
  oR (L i).1 (L j).1&&oR (L i).1 (L j).2&&oR (L j).1 (L i).2
 |_,_=>false
theorem uz{a b:List Nat}(h:oR a b=true){x:Nat}(hx:x∈a):x∉b:=by
 have:=YG.1 h x hx
 simp_all
theorem wh{os:Nat→Option AO}:∀{U:List (Nat×Option AO)} {o:Nat},o∉U.map (·.1)→ay os U o=os o:=by
 intro U
 induction U with
 |nil=>intro o _;rfl
 |cons e r ih=>
  intro o h;simp only[Yp,Yh,not_or]at h;simp only[ay,h.1,Yc]
  grind
theorem TH{os:Nat→Option AO}{U U':List (Nat×Option AO)}(h:∀x,x∈U.map (·.1)→x∉U'.map (·.1)):ay (ay os U) U'=ay (ay os U') U:=by
 funext o
 by_cases h1:o∈U'.map (·.1)
 ·have h2:o∉U.map (·.1):=fun q=>h o q h1
  rw[wh h2 (os:=ay os U')]
  have:∀(os1 os2:Nat→Option AO) (V:List (Nat×Option AO)),o∈V.map (·.1)→ay os1 V o=ay os2 V o:=by
   intro os1 os2 V
   induction V with
   |nil=>simp
   |cons e r ih=>
    intro h;simp only[ay]
    grind
  grind
 ·rw[wh h1]
  by_cases h2:o∈U.map (·.1)
  ·have:∀(os1 os2:Nat→Option AO) (V:List (Nat×Option AO)),o∈V.map (·.1)→ay os1 V o=ay os2 V o:=by
    intro os1 os2 V
    induction V with
    |nil=>simp
    |cons e r ih=>
     intro h;simp only[ay]
     grind
   grind
  ·rw[wh h2,wh h2,wh h1]
theorem FS.pM{f:FS}{d d':Option Nat}{v v':AV}{U U':List (Nat×Option AO)}(hd:∀x,x∈d.toList→x∉d'.toList)
 (hU:∀x,x∈U.map (·.1)→x∉U'.map (·.1)):(f.eO d v U).eO d' v' U'=(f.eO d' v' U').eO d v U:=by
 have e1:∀(f:FS) d v U,(f.eO d v U).os=ay f.os U:=fun _ _ _ _=>rfl
 have e2:∀(f:FS) d v U,(f.eO d v U).g=(f.put d v).g:=fun _ _ _ _=>rfl
 have e3:∀(f:FS) d v,(f.put d v).g=match d with|some k=>fun t=>if t=k then v else f.g t|none=>f.g:=by intro f d v;cases d<;>rfl
 have hg:((f.eO d v U).eO d' v' U').g=((f.eO d' v' U').eO d v U).g:=by
  rw[e2,e2,e3,e3]
  cases d with
  |none=>simp_all
  |some k=>cases d' with
   |none=>rfl
   |some k'=>
    have hne:k≠k':=by intro e;exact hd k (by simp) (by simp[e])
    grind
 have ho:((f.eO d v U).eO d' v' U').os=((f.eO d' v' U').eO d v U).os:=by
  rw[e1,e1,e1,e1];exact TH hU
 cases hA:(f.eO d v U).eO d' v' U' with
 |mk g os=>cases hB:(f.eO d' v' U').eO d v U with
  |mk g' os'=>simp_all
section
variable {P:Program}{G:db}{N:Sl}{ops:Array Oper}{nb:Nat}{L:Log}
theorem tz(f:FS)(d:Option Nat)(v:AV)(U:List (Nat×Option AO))(t:Nat)(h:t∉d.toList):(f.eO d v U).g t=f.g t:=by
 cases d with
 |none=>rfl
 |some k=>
  show(if t=k then v else f.g t)=f.g t
  simp_all
theorem JM(f:FS)(d:Option Nat)(v:AV)(U:List (Nat×Option AO)):(f.eO d v U).os=ay f.os U:=rfl
theorem iq.move{f f1:FS}{i:Nat}(h:iq P G N ops nb L f i f1):∃(o:Oper) (v:AV) (U:List (Nat×Option AO)),ops[i]? =some o∧f1=f.eO o.dst v U∧
 U.map (·.1)=(L i).1∧
 ∀f':FS,(∀t,t∈wg ops o→f'.g t=f.g t)→(∀k,k∈(L i).1∨k∈(L i).2→f'.os k=f.os k)→iq P G N ops nb L f' i (f'.eO o.dst v U):=by
 have mc:∀(o:Oper) (f':FS),(∀t,t∈wg ops o→f'.g t=f.g t)→fW ops f'.g o=fW ops f.g o:=by
  intro o f' ht;unfold fW
  cases hg:o.guard with
  |none=>rfl
  |some jw=>
   obtain⟨j,want⟩:=jw
   simp only
   cases hb:(ops[j]?).bind (·.dst)with
   |none=>rfl
   |some d=>
    simp only
    rw[ht d (by unfold wg;simp_all)]
 cases h with
 |run o v U RO ho hw hA hd hL=>
  refine⟨o,v,U,ho,rfl,by rw[hL],fun f' ht hk=>?_⟩
  refine .run o v U RO ho (by simp_all) (hA.local (fun x hx=>?_) (fun k tW=>?_)) hd hL
  ·cases x with
   |tmp t=>
    show f'.g t=f.g t
    refine ht t ?_
    unfold wg JI
    grind
   |_=>rfl
  grind
 |skip o ho hw hd hL=>
  refine⟨o,.bN [],[],ho,rfl,by grind,fun f' ht hk=>?_⟩
  exact .skip o ho (by simp_all) hd hL
theorem iq.swap{f f1 f2:FS}{i j:Nat}(h1:iq P G N ops nb L f i f1)(h2:iq P G N ops nb L f1 j f2)(hok:C3 ops L i j=true):
 ∃Ar,iq P G N ops nb L f j Ar∧iq P G N ops nb L Ar i f2:=by
 obtain⟨o,v,U,ho,rfl,hU,zJ⟩:=h1.move
 obtain⟨o',v',U',ru,rfl,Jk,vr⟩:=h2.move
 unfold C3 at hok;rw[ho,ru]at hok;simp only[Y9]at hok
 obtain⟨⟨⟨⟨k1,k2⟩,k3⟩,k4⟩,k5⟩:=hok
 refine⟨f.eO o'.dst v' U',vr f (fun t ht=>?_) (fun k hk=>?_),?_⟩
 ·rw[tz];intro hq;exact uz k1 hq ht
 ·rw[JM,wh];rw[hU];intro hq
  rcases hk with hk|hk
  ·exact uz k3 hq hk
  ·exact uz k4 hq hk
 ·have:=zJ (f.eO o'.dst v' U') (fun t ht=>?_) (fun k hk=>?_)
  ·rw[FS.pM]at this
   ·exact this
   ·intro x hx hx'
    exact uz k2 hx (by unfold wg;simp_all)
   ·intro x hx hx'
    rw[Jk]at hx;rw[hU]at hx';exact uz k3 hx' hx
  ·rw[tz];intro hq;exact uz k2 hq ht
  ·rw[JM,wh];rw[Jk];intro hq
   rcases hk with hk|hk
   ·exact uz k3 hk hq
   ·exact uz k5 hq hk
theorem ew.front{i:Nat}:∀{a:List Nat} {b:List Nat} {f f2:FS},ew P G N ops nb L (a++i::b) f f2→(∀j,j∈a→C3 ops L j i=true)→
 ew P G N ops nb L (i::(a++b)) f f2:=by
 intro a
 induction a with
 |nil=>simp
 |cons j r ih=>
  intro b f f2 h hok
  cases h with
  |cons _ _ _ f1 _ hj hr=>
   have:=ih hr (fun k hk=>hok k (by simp[hk]))
   cases this with
   |cons _ _ _ f3 _ hi lT=>
    obtain⟨Ar,h1,h2⟩:=hj.swap hi (hok j (by simp))
    exact .cons i _ f Ar f2 h1 (.cons j _ Ar f3 f2 h2 lT)
def AF(prev:List Nat)(o:Oper):Nat:=
 o.after.toList.foldl (fun s e=>if Region.binds .any e then s|||(2^e.on|||prev.getD e.on 0)else s) 0
def iU:List Oper→List Nat→List Nat
 | [],acc=>acc
 |o::r,acc=>iU r (acc++[AF acc o])
def AW(ops:Array Oper)(L:Log):Bool:=
 let m:=iU ops.toList []
 (ops.toList.zipIdx.all fun(o,i)=>o.after.toList.all fun e=>!Region.binds .any e||decide (e.on<i))&&
 (List.range ops.size).all fun i=>(List.range i).all fun j=>(m.getD i 0).testBit j||C3 ops L j i
theorem Ma{prev:List Nat}{j:Nat}:∀(l:List Edge) (s:Nat),(l.foldl (fun s e=>if Region.binds .any e then s|||(2^e.on|||prev.getD e.on 0)else s) s).testBit j=true→
 s.testBit j=true∨∃e,e∈l∧Region.binds .any e=true∧(e.on=j∨(prev.getD e.on 0).testBit j=true):=by
 intro l
 induction l with
 |nil=>simp
 |cons e r ih=>
  intro s h;simp only[List.foldl_cons]at h
  grind
theorem Lh:∀(l:List Oper) (acc:List Nat) (i:Nat),(∀k,k<acc.length→(iU l acc)[k]? =acc[k]?)∧
 (∀o,l[i]? =some o→∃prev,(iU l acc).getD (acc.length+i) 0=AF prev o∧∀k,k<acc.length+i→prev[k]? =(iU l acc)[k]?):=by
 intro l
 induction l with
 |nil=>intro acc i;exact⟨fun k _=>rfl,fun o h=>by simp at h⟩
 |cons o r ih=>
  intro acc i;simp only[iU]
  have h1:=(ih (acc++[AF acc o]) 0).1
  have zR:∀k,k<acc.length→(iU r (acc++[AF acc o]))[k]? =acc[k]? :=by
   intro k hk
   rw[h1 k (by grind),Yt hk]
  refine⟨zR,fun o' ru=>?_⟩
  cases i with
  |zero=>
   grind
  |succ i=>
   obtain⟨prev,hp,hk⟩:=(ih (acc++[AF acc o]) i).2 o' (by simp_all)
   simp only[Ya,List.length_singleton]at hp hk
   grind
theorem TA{listed:Nat→Bool}(hcl:∀(i:Nat) o,ops[i]? =some o→listed i=true→∀e,e∈o.after.toList→Region.binds .any e=true→listed e.on=true)
 (hlt:∀(i:Nat) o,ops[i]? =some o→∀e,e∈o.after.toList→Region.binds .any e=true→e.on<i):
 ∀(n i:Nat) o,i≤n→ops[i]? =some o→(∀e,e∈o.after.toList→Region.binds .any e=true→listed e.on=true)→
  ∀j,((iU ops.toList []).getD i 0).testBit j=true→listed j=true:=by
 intro n
 induction n with
 |zero=>
  intro i o hi ho hr j hj
  obtain⟨prev,hp,hk⟩:=(Lh ops.toList [] i).2 o (by simp_all)
  simp only[YB,YS]at hp hk;rw[hp]at hj
  rcases Ma _ _ hj with h|⟨e,he,hb,h⟩
  all_goals grind
 |succ n ih=>
  intro i o hi ho hr j hj
  obtain⟨prev,hp,hk⟩:=(Lh ops.toList [] i).2 o (by simp_all)
  simp only[YB,YS]at hp hk;rw[hp]at hj
  rcases Ma _ _ hj with h|⟨e,he,hb,h⟩
  ·simp at h
  ·have zM:=hr e he hb
   rcases h with h|h
   ·simp_all
   ·have ON:=hlt i o ho e he hb
    have:(iU ops.toList []).getD e.on 0=prev.getD e.on 0:=by
     rw[W6,W6,hk e.on ON]
    rw[←this]at h
    have mn:e.on<ops.size:=by
     have:i<ops.size:=by
      rcases YY i ops.size with q|q
      ·exact q
      ·simp_all
     omega
    exact ih e.on ops[e.on] (by omega) (YK mn) (hcl e.on _ (YK mn) zM) j h
theorem Ul{p:Nat→Bool}{i:Nat}:∀(l:List Nat),l.Pairwise (· < ·)→i∈l→p i=true→
 ∃a b,l.filter p=a++i::b∧(∀j,j∈a→j<i∧p j=true)∧l.filter (fun k=>p k&&decide (k≠i))=a++b:=by
 intro l
 induction l with
 |nil=>simp
 |cons x r ih=>
  intro hp hi I7
  have Fm:=(List.pairwise_cons.1 hp)
  cases hi with
  |head=>
   refine⟨[],r.filter p,by simp[I7],by simp,?_⟩
   rw[Ww,if_neg (by simp),YL]
   apply List.filter_congr;intro k hk
   have:=Fm.1 k hk
   simp;omega
  |tail _ hi=>
   obtain⟨a,b,h1,h2,h3⟩:=ih Fm.2 hi I7
   have X1:=Fm.1 i hi
   grind
theorem Mo(n:Nat):(List.range n).Pairwise (· < ·):=List.pairwise_lt_range
theorem SM(hok:AW ops L=true){f':FS}:∀(fuel t:Nat) (listed:Array Bool) (acc:List Nat) (f:FS),listed.size=ops.size→
 (∀(i:Nat) o,ops[i]? =some o→listed.getD i true=true→∀e,e∈o.after.toList→Region.binds .any e=true→listed.getD e.on true=true)→
 ((List.range ops.size).filter fun i=>!listed.getD i true).length≤fuel→
 ew P G N ops nb L ((List.range ops.size).filter fun i=>!listed.getD i true) f f'→
 ∃rest,Region.linearise.go .any ops fuel t listed acc=acc.reverse++rest∧ew P G N ops nb L rest f f'∧rest.Nodup∧∀i,i∈rest→i<ops.size∧listed.getD i true=false:=by
 unfold AW at hok;simp only[Y9]at hok
 obtain⟨zV,vm⟩:=hok
 have hlt:∀(i:Nat) o,ops[i]? =some o→∀e,e∈o.after.toList→Region.binds .any e=true→e.on<i:=by
  intro i o ho e he hb
  have:=YG.1 zV (o,i) (by
   grind)
  have:=YG.1 this e he
  simpa[hb]using this
 intro fuel
 induction fuel with
 |zero=>
  intro t listed acc f hsz hcl hlen hch
  have he:(List.range ops.size).filter (fun i=>!listed.getD i true)=[]:=Yy.1 (by omega)
  rw[he]at hch
  exact⟨[],by simp[Region.linearise.go],hch,by simp,by simp⟩
 |succ fuel ih=>
  intro t listed acc f hsz hcl hlen hch;simp only[Region.linearise.go]
  generalize hrs:(List.range ops.size).filter (fun i=>!listed.getD i true&&((ops[i]?).map (·.after.all fun e=>!Region.binds .any e||listed.getD e.on false)).getD false)=rs
  cases pX:rs[t% rs.length]? with
  |none=>
   have Od:rs=[]:=by
    cases hr:rs with
    |nil=>rfl
    |cons x r=>
     rw[hr]at pX
     rw[Y3 (Nat.mod_lt _ (by simp))]at pX
     grind
   have he:(List.range ops.size).filter (fun i=>!listed.getD i true)=[]:=by
    cases hr:(List.range ops.size).filter (fun i=>!listed.getD i true)with
    |nil=>rfl
    |cons x r=>
     exfalso
     have hx:x∈(List.range ops.size).filter (fun i=>!listed.getD i true):=by rw[hr];simp
     have hx':=Wp.1 hx
     have lS:x<ops.size:=by simpa using hx'.1
     have hsort:(x::r).Pairwise (· < ·):=by rw[←hr];exact(Mo _).filter _
     have sA:∀j,j<x→listed.getD j true=true:=by
      intro j hj
      cases Zc:listed.getD j true with
      |true=>rfl
      |false=>
       have:j∈(List.range ops.size).filter (fun i=>!listed.getD i true):=Wp.2 ⟨by grind,by grind⟩
       rw[hr]at this
       cases this with
       |head=>omega
       |tail _ h=>have:=(List.pairwise_cons.1 hsort).1 j h;omega
     have:x∈rs:=by
      rw[←hrs]
      refine Wp.2 ⟨hx'.1,?_⟩
      simp only[Y9]
      refine⟨hx'.2,?_⟩
      rw[YK lS]
      simp only[Yo,Yv];rw[←Array.all_toList,YG];intro e he
      by_cases hb:Region.binds .any e=true
      ·grind
      ·simp[hb]
     grind
   grind
  |some i=>
   simp only
   have hi:i∈rs:=YA pX
   rw[←hrs]at hi
   have hi':=Wp.1 hi
   have CC:i<ops.size:=by simpa using hi'.1
   simp only[Y9]at hi'
   obtain⟨_,rq,lE⟩:=hi'
   rw[YK CC]at lE
   simp only[Yo,Yv]at lE
   have zE:∀e,e∈(ops[i]).after.toList→Region.binds .any e=true→listed.getD e.on true=true:=by
    intro e he hb;rw[←Array.all_toList,YG]at lE
    have:=lE e he
    simp only[hb,W4,Bool.false_or]at this
    have sB:=hlt i _ (YK CC) e he hb
    have hes:e.on<listed.size:=by omega
    simp only[YU,YK hes,Yv]at this⊢
    exact this
   obtain⟨a,b,h1,h2,h3⟩:=Ul (p:=fun i=>!listed.getD i true) (List.range ops.size) (Mo _) (by omega) rq
   rw[h1]at hch
   have vC:=hch.front (fun j hj=>by
    obtain⟨hji,Zf⟩:=h2 j hj
    have:=YG.1 vm i (by omega)
    have:=YG.1 this j (by grind)
    simp only[Bool.or_eq_true]at this
    rcases this with hm|hm
    ·exfalso
     have:=TA (ops:=ops) (listed:=fun k=>listed.getD k true) hcl hlt i i ops[i] (Yg _) (YK CC) zE j hm
     grind
    omega)
   cases vC with
   |cons _ _ _ f1 _ hstep iE=>
    have hset:∀k,(listed.setIfInBounds i true).getD k true=if k=i then true else listed.getD k true:=by
     intro k;simp only[YU]
     by_cases hk:k=i
     ·grind
     ·grind
    have zU:(List.range ops.size).filter (fun k=>!(listed.setIfInBounds i true).getD k true)=a++b:=by
     rw[←h3];apply List.filter_congr;intro k _;rw[hset]
     by_cases hk:k=i<;>simp[hk]
    obtain⟨rest,xn,zC,Of,Oe⟩:=ih (t/rs.length) (listed.setIfInBounds i true) (i::acc) f1 (by grind) (fun k o ho hk e he hb=>by
     rw[hset]at hk⊢
     by_cases ji:k=i
     ·subst ji
      have:o=ops[k]:=by rw[YK CC]at ho;injection ho with ho;exact ho.symm
      subst this;split
      all_goals grind
     ·rw[if_neg ji]at hk
      split
      all_goals grind)
     (by grind) (by grind)
    refine⟨i::rest,by grind,.cons i rest f f1 f' hstep zC,?_,?_⟩
    ·grind
    ·intro k hk
     cases hk with
     |head=>grind
     |tail _ hk=>
      have:=Oe k hk
      refine⟨this.1,?_⟩
      have h5:=this.2
      rw[hset]at h5
      grind
theorem SN(hok:AW ops L=true){f f':FS}(h:ew P G N ops nb L (List.range ops.size) f f')(t:Nat):
 ew P G N ops nb L (Region.linearise .any ops t) f f'∧(Region.linearise .any ops t).Nodup∧∀i,i∈Region.linearise .any ops t→i<ops.size:=by
 have vD:∀i,i<ops.size→(Array.replicate ops.size false).getD i true=false:=by
  intro i hi;simp[YU,hi]
 have zU:(List.range ops.size).filter (fun i=>!(Array.replicate ops.size false).getD i true)=List.range ops.size:=by
  rw[List.filter_eq_self];intro i hi
  rw[vD i (by simp_all)];rfl
 obtain⟨rest,h1,h2,h3,h4⟩:=SM hok ops.size t (Array.replicate ops.size false) [] f (by simp) (fun i o ho hl=>by
  grind) (by grind) (by rw[zU];exact h)
 unfold Region.linearise;simp_all
end
abbrev WF(r:Option Nat):Fence:={Fence.wide with round:=r}
theorem y5(r:Option Nat)(n:Nat):(WF r).room n:=room_wide n
theorem Pq{r:Option Nat}{n:Nat}{P:Program}{f:FuncId}{args:Array Value}{w:World}{R:Ending→World→Prop}(h:Calls P f args w R):CallsIn (WF r) n P f args w R:=
 callsIn_wide.2 h
def xC:Op→Bool
 |.defer _=>true
 |_=>false
theorem y4{r:Option Nat}{n:Nat}{P:Program}{row:String}{args:Array Value}{w:World}{R:Value→World→Prop}(h:Rows P row args w R):RowsIn (WF r) n P row args w R:=
 fun c cs _=>by
  obtain⟨v,w',a,b⟩:=h c cs
  refine⟨v,w',a,?_⟩
  show StepsIn (Machine.fenced P Fence.wide) _ _ _
  exact stepsIn_wide.2 b
theorem y7{r:Option Nat}{n:Nat}{P:Program}{o:Oper}{a:Act}{w:World}{next:Act→World→Prop}{Q:Exit→Act→World→Prop}(hd:xC o.op=false)(h:o.wp P a w next Q):
 o.wpIn (WF r) n P a w next Q:=by
 refine⟨fun _ _=>trivial,?_⟩
 have e:Oper.semAt (WF r).round a.eval o=execOp a.eval o:=by
  cases r with
  |none=>rfl
  |some l=>exact Oper.semAt_some l _ _ (fun c hc=>by rw[hc]at hd;cases hd)
 rw[e];unfold Oper.wp at h;generalize (execOp a.eval o).run P w=X at h⊢
 cases X with
 |ok x w'=>
  cases x with
  |enter f args=>exact⟨fun h=>(by cases h),Pq h⟩
  |row row args=>exact⟨fun h=>(by cases h),y4 h⟩
  |round l f t x y=>exact h.elim
  |_=>exact h
 |halt x w'=>cases x<;>exact h
section
variable {P:Program}{C:Cx}{ops:Array Oper}{nb:Nat}{L:Log}{Q:Exit→Act→World→Prop}
theorem Kl{S:Nat→Prop}{ι:ax}{un:Nat→Prop}{f:FS}{a:Act}{w:World}(h:Inv C S ι un f a w){o:Oper}{b:Bool}(hw:fW ops f.g o=some b):
 Region.wanted o (yielded ops a.tmps)=b:=by
 unfold fW at hw;unfold Region.wanted
 cases hg:o.guard with
 |none=>simp_all
 |some jw=>
  obtain⟨j,want⟩:=jw
  rw[hg]at hw;simp only at hw⊢;split at hw
  ·rename_i d hd
   split at hw
   ·rename_i c hc
    injection hw with hw
    subst hw
    have ht:=h.tm d
    rw[hc]at ht
    have hv:=ht.dp
    have hsome:a.tmps[d]? =some (.bool c):=by
     rw[YU]at hv
     cases hq:a.tmps[d]? with
     |none=>rw[hq]at hv;simp[undef]at hv
     |some x=>simp_all
    unfold yielded;simp_all
   ·rename_i vs hc
    injection hw with hw
    subst hw
    have ht:=h.tm d
    rw[hc]at ht
    obtain⟨us,hv,_⟩:=ht.gA
    have hne:∀b,a.tmps[d]? ≠some (.bool b):=by
     intro b hb;rw[YU,hb]at hv;simp at hv
    unfold yielded;simp_all
   grind
  grind
theorem R9{f:FS}{d:Option Nat}{v:AV}{U:List (Nat×Option AO)}(hs:ay f.os U=f.os):f.eO d v U=f.eO d v []:=by
 unfold FS.eO;rw[hs];rfl
theorem Sd{S:Nat→Prop}{w:World}{ι:ax}{un:Nat→Prop}{f:FS}{a:Act}{id:Nat}{o:Oper}{next:Act→World→Prop}
 {op:Op} {v:AV} {U:List (Nat×Option AO)} {RO:List Nat} (cu:o.op=op) (h:Inv C S ι un f a w)
 (hst:gZ P C.G (gD C.G f.g) f.os id op v U RO) (hid:∀x,id≤x→x<id+W→un x) (hd:∀d,o.dst=some d→C.N.lo≤d∧d<C.N.n) (hn:fP C un id o f v U next):
 o.wp P a w next Q:=by
 cases hst with
 |of hst=>exact Kq cu h hst hid hd hn
 |same hst hs hr=>
  refine Kq cu h hst hid hd (fun S' ι' a' w' hinv=>hn S' ι' a' w' ?_)
  exact(R9 hs)▸hinv
theorem K3{r:Option Nat}:∀{l:List Nat} {f f':FS},ew P C.G C.N ops nb L l f f'→l.Nodup→∀{S:Nat→Prop} {ι:ax} {un:Nat→Prop} {a:Act} {w:World},
 Inv C S ι un f a w→(∀i,i∈l→∀x,nb+i*W≤x→x<nb+i*W+W→un x)→(∀i,i∈l→∀o,ops[i]? =some o→xC o.op=false)→
 (∀S' ι' a' w',Inv C S' ι' (fun x=>un x∧∀i,i∈l→¬(nb+i*W≤x∧x<nb+i*W+W)) f' a' w'→Q .normal a' w')→wpOpsIn (WF r) 0 P ops Q l a w:=by
 intro l f f' hch
 induction hch with
 |nil f=>
  intro _ S ι un a w h _ _ hQ
  exact hQ S ι a w (h.less (fun x hx=>hx.1))
 |cons i l f f1 f2 hstep _ ih=>
  intro pZ S ι un a w h rq hdf hQ
  obtain⟨hil,zH⟩:=Va.1 pZ
  have sF:∀k,k∈l→∀x,nb+k*W≤x→x<nb+k*W+W→¬(nb+i*W≤x∧x<nb+i*W+W):=by
   intro k hk x h1 h2 h3
   have:k≠i:=fun e=>hil (e▸hk)
   have hW:W=32:=rfl
   simp only[hW]at h1 h2 h3;omega
  cases hstep with
  |run o v U RO ho hw hA hd hL=>
   simp only[wpOpsIn,ho];rw[if_pos (Kl h hw)]
   refine y7 (hdf i (by simp) o ho) (Sd rfl h hA (fun x h1 h2=>rq i (by simp) x h1 h2) hd (fun S' ι' a' w' hinv=>?_))
   refine ih zH hinv (fun k hk x h1 h2=>⟨rq k (by simp[hk]) x h1 h2,sF k hk x h1 h2⟩) (fun k hk=>hdf k (by simp[hk])) (fun S2 ι2 a2 w2 hinv2=>?_)
   refine hQ S2 ι2 a2 w2 (hinv2.less (fun x hx=>⟨⟨hx.1,hx.2 i (by simp)⟩,fun k hk=>hx.2 k (by simp[hk])⟩))
  |skip o ho hw hd hL=>
   simp only[wpOpsIn,ho]
   rw[if_neg (by rw[Kl h hw];simp)]
   refine⟨fun _ _=>trivial,?_⟩
   have hinv:Inv C S ι un (f.eO o.dst (.bN []) []) (a.put o.dst undef) w:=by
    have:=h.put (dst:=o.dst) (v:=.bN []) (v':=undef) (.bI _ _ (.bN [] #[] rfl (fun j x v h=>by simp at h))) hd
    have e:f.eO o.dst (.bN []) []=f.put o.dst (.bN []):=by
     unfold FS.eO;cases o.dst<;>rfl
    rw[e];exact this
   refine ih zH hinv (fun k hk x h1 h2=>rq k (by simp[hk]) x h1 h2) (fun k hk=>hdf k (by simp[hk])) (fun S2 ι2 a2 w2 hinv2=>?_)
   refine hQ S2 ι2 a2 w2 (hinv2.less (fun x hx=>⟨hx.1,fun k hk=>hx.2 k (by simp[hk])⟩))
theorem LP{r:Option Nat}{NU:Nat}{draw:Bool}{f f':FS}(hm:P.follows .mixedOrders=true)(h:ew P C.G C.N ops nb L (List.range ops.size) f f')
 (hd:draw=true→AW ops L=true) {S:Nat→Prop} {ι:ax} {a:Act} {w:World} (hinv:Inv C S ι (fun x=>nb≤x) f a w)
 (hdf:∀o,o∈ops.toList→xC o.op=false)
 (hQ:∀S' ι' a' w',Inv C S' ι' (fun x=>nb+ops.size*W≤x) f' a' w'→Q .normal a' w'):(Code.region NU ops draw).wpIn (WF r) 0 P Q a w:=by
 have zX:∀(i:Nat) (o:Oper),ops[i]? =some o→xC o.op=false:=fun i o ho=>hdf o (YA (by simpa using ho))
 have rq:∀(l:List Nat),(∀i,i∈l→i<ops.size)→∀S' ι' a' w',Inv C S' ι' (fun x=>nb≤x∧∀i,i∈l→¬(nb+i*W≤x∧x<nb+i*W+W)) f' a' w'→Q .normal a' w':=by
  intro l hl S' ι' a' w' hi
  refine hQ S' ι' a' w' (hi.less (fun x hx=>⟨by omega,fun i him=>?_⟩))
  have:=hl i him
  have:(i+1)*W≤ops.size*W:=Yr _ this
  rw[YT]at this;omega
 cases draw with
 |false=>
  refine wpIn_region ?_
  exact K3 h List.nodup_range hinv (fun i _ x h1 _=>by omega) (fun i _=>zX i) (rq _ (fun i hi=>by simp_all))
 |true=>
  refine wpIn_region_draw (fun t=>?_)
  have e:Region.schedule (P.follows .mixedOrders) ops t=Region.linearise .any ops t:=by
   unfold Region.schedule;rw[hm];simp
  rw[e]
  obtain⟨h1,h2,h3⟩:=SN (hd rfl) h t
  exact K3 h1 h2 hinv.drew (fun i _ x h1 _=>by omega) (fun i _=>zX i) (rq _ h3)
end
def kf(b:Bool)(A B:Prop):Prop:=Bool.rec (motive:=fun _=>Prop) B A b
def sR(b:Bool)(A B:Prop):Prop:=Bool.rec (motive:=fun _=>Prop) B A b
theorem gU{b:Bool}{A B:Prop}(h1:b=true→A)(h2:b=false→B):kf b A B:=by
 cases b
 ·exact h2 rfl
 ·exact h1 rfl
theorem fH{b:Bool}{A B:Prop}(h:kf b A B):(b=true∧A)∨(b=false∧B):=by
 cases b
 ·exact .inr ⟨rfl,h⟩
 ·exact .inl ⟨rfl,h⟩
def opt{α:Type}(x:Option α)(K:α→Prop):Prop:=Option.rec (motive:=fun _=>Prop) False (fun y=>K y) x
theorem fm{α:Type}{x:Option α}{K:α→Prop}(y:α)(h:x=some y)(hK:K y):opt x K:=by rw[h];exact hK
theorem bh{α:Type}{x:Option α}{K:α→Prop}(h:opt x K):∃y,x=some y∧K y:=by
 cases x with
 |none=>exact h.elim
 |some y=>exact⟨y,rfl,h⟩
mutual
def ic:AV→(AV→Prop)→Prop
 |.int k n,K=>K (.int k n)
 |.bool b,K=>K (.bool b)
 |.str s,K=>K (.str s)
 |.dq,K=>K .dq
 |.sl xs,K=>K (.sl xs)
 |.agg cs,K=>fL cs fun cs=>K (.agg cs)
 |.bN cs,K=>fL cs fun cs=>K (.bN cs)
 |.rp row c,K=>K (.rp row c)
 |.fn f cs,K=>fL cs fun cs=>K (.fn f cs)
 |.ei v,K=>K (.ei v)
 |.ptr o r c,K=>K (.ptr o r c)
 |.eN o a b c,K=>K (.eN o a b c)
 |.an o z,K=>K (.an o z)
 |.aw o,K=>K (.aw o)
 |.undef,K=>K .undef
 |.eh p,K=>K (.eh p)
def fL:List AV→(List AV→Prop)→Prop
 | [],K=>K []
 |x::r,K=>ic x fun x=>fL r fun r=>K (x::r)
end
mutual
theorem lb:∀(x:AV) (K:AV→Prop),ic x K=K x
 |.int k n,K=>rfl
 |.bool b,K=>rfl
 |.str s,K=>rfl
 |.dq,K=>rfl
 |.sl xs,K=>rfl
 |.agg cs,K=>by simp only[ic];rw[gO]
 |.bN cs,K=>by simp only[ic];rw[gO]
 |.rp row c,K=>rfl
 |.fn f cs,K=>by simp only[ic];rw[gO]
 |.ei v,K=>rfl
 |.ptr o r c,K=>rfl
 |.eN o a b c,K=>rfl
 |.an o z,K=>rfl
 |.aw o,K=>rfl
 |.undef,K=>rfl
 |.eh p,K=>rfl
theorem gO:∀(l:List AV) (K:List AV→Prop),fL l K=K l
 | [],K=>rfl
 |x::r,K=>by simp only[fL];rw[lb,gO]
end
def fR:List (List AV)→(List (List AV)→Prop)→Prop
 | [],K=>K []
 |x::r,K=>fL x fun x=>fR r fun r=>K (x::r)
theorem ue:∀(l:List (List AV)) (K:List (List AV)→Prop),fR l K=K l
 | [],K=>rfl
 |x::r,K=>by simp only[fR];rw[gO,ue]
abbrev Tm:=List (Nat×AV)
abbrev Os:=List (Nat×AO)
def bX(g:Tm)(t:Nat):AV:=
 match g with
 | []=>.undef
 |(k,v)::r=>if t=k then v else bX r t
def oH(k:Nat)(x:AO):Os→Os
 | []=>[(k,x)]
 |(k',y)::r=>if k=k' then(k,x)::r else(k',y)::oH k x r
def my(k:Nat):Os→Os
 | []=>[]
 |(k',y)::r=>if k=k' then my k r else(k',y)::my k r
def gy(os:Os):List (Nat×Option AO)→Os
 | []=>os
 |(k,some x)::r=>oH k x (gy os r)
 |(k,none)::r=>my k (gy os r)
theorem QK(k:Nat)(x:AO):∀(os:Os) (o:Nat),lk (oH k x os) o=if o=k then some x else lk os o:=by
 intro os
 induction os with
 |nil=>intro o;rfl
 |cons e r ih=>
  intro o
  obtain⟨k',y⟩:=e
  simp only[oH]
  by_cases h:k=k'
  ·subst h
   simp only[Yi,lk]
   grind
  ·simp only[h,Yc,lk,ih]
   grind
theorem QJ(k:Nat):∀(os:Os) (o:Nat),lk (my k os) o=if o=k then none else lk os o:=by
 intro os
 induction os with
 |nil=>intro o;simp[my,lk]
 |cons e r ih=>
  intro o
  obtain⟨k',y⟩:=e
  simp only[my]
  by_cases h:k=k'
  ·subst h
   simp only[Yi,ih,lk];simp_all
  ·simp only[h,Yc,lk,ih]
   grind
theorem AL(os:Os):∀(U:List (Nat×Option AO)),lk (gy os U)=ay (lk os) U:=by
 intro U
 induction U with
 |nil=>rfl
 |cons e r ih=>
  obtain⟨k,x⟩:=e
  funext o
  cases x with
  |some x=>simp only[gy,QK,ay,ih]
  |none=>simp only[gy,QJ,ay,ih]
theorem SP(g:Tm)(os:Nat→Option AO)(d:Option Nat)(v:AV):(FS.mk (bX g) os).put d v=FS.mk (bX (match d with|some d=>(d,v)::g|none=>g)) os:=by
 cases d with
 |none=>rfl
 |some d=>rfl
def cz(g:Tm)(os:Os):FS:=⟨bX g,lk os⟩
theorem Kz(g:Tm)(os:Os)(d:Option Nat)(v:AV)(U:List (Nat×Option AO)):
 (cz g os).eO d v U=cz (match d with|some d=>(d,v)::g|none=>g) (gy os U):=by
 unfold cz FS.eO;rw[SP,AL]
def fO:Os→(Os→Prop)→Prop
 | [],K=>K []
 |(k,x)::r,K=>fO r fun r=>K ((k,x)::r)
theorem qm:∀(os:Os) (K:Os→Prop),fO os K=K os
 | [],K=>rfl
 |(k,x)::r,K=>by simp only[fO];rw[qm]
def fN(n:Nat)(K:Nat→Prop):Prop:=Nat.rec (motive:=fun _=>Prop) (K 0) (fun m _=>K (m+1)) n
theorem kZ(n:Nat)(K:Nat→Prop):fN n K=K n:=by cases n<;>rfl
def sP(k:Nat)(x:AO):Os→(Os→Prop)→Prop
 | [],K=>K [(k,x)]
 |(k',y)::r,K=>if k=k' then K ((k,x)::r)else sP k x r fun r=>K ((k',y)::r)
def qq(k:Nat):Os→(Os→Prop)→Prop
 | [],K=>K []
 |(k',y)::r,K=>if k=k' then qq k r K else qq k r fun r=>K ((k',y)::r)
theorem J1(k:Nat)(x:AO):∀(os:Os) (K:Os→Prop),sP k x os K=K (oH k x os)
 | [],K=>rfl
 |(k',y)::r,K=>by
  simp only[sP,oH];split
  ·rfl
  ·rw[J1]
theorem GP(k:Nat):∀(os:Os) (K:Os→Prop),qq k os K=K (my k os)
 | [],K=>rfl
 |(k',y)::r,K=>by
  simp only[qq,my];split
  ·rw[GP]
  ·rw[GP]
def vN(os:Os):List (Nat×Option AO)→(Os→Prop)→Prop
 | [],K=>fO os K
 |(k,some x)::r,K=>vN os r fun os=>fN k fun k=>sP k x os K
 |(k,none)::r,K=>vN os r fun os=>fN k fun k=>qq k os K
theorem Gs(os:Os):∀(U:List (Nat×Option AO)) (K:Os→Prop),vN os U K=K (gy os U)
 | [],K=>qm _ _
 |(k,some x)::r,K=>by simp only[vN,gy];rw[Gs];rw[kZ,J1]
 |(k,none)::r,K=>by simp only[vN,gy];rw[Gs];rw[kZ,GP]
def fU(p:Bool)(rs:List (List AV))(K:AO→Prop):Prop:=
 Bool.rec (motive:=fun _=>Prop) (fR rs fun rs=>K (.rows false rs)) (K (.rows true rs)) p
theorem kc(p:Bool)(rs:List (List AV))(K:AO→Prop):fU p rs K=K (.rows p rs):=by
 cases p
 ·simp only[fU];rw[ue]
 ·rfl
def iA(ol:Nat→Option AO)(o:Nat):Option (List (List AV)):=
 match ol o with
 |some (.rows true rs)=>some rs
 |some (.rows false rs)=>some rs
 |some (.cT rs)=>some rs
 |_=>none
theorem wq{ol:Nat→Option AO}{o:Nat}{rs:List (List AV)}(h:iA ol o=some rs):∃y,ol o=some y∧(y=.rows true rs∨y=.rows false rs∨y=.cT rs):=by
 unfold iA at h
 grind
end Go.Ab
