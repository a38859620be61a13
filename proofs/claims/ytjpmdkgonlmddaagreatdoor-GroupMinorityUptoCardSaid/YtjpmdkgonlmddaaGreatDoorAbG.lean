import Derived.Test.YtjpmdkgonlmddaaGreatDoorAbF
import Derived.Test.YtjpmdkgonlmddaaGreatDoorAbA
import Derived.TacticsIn
import Derived.RangeFuncCalls
set_option linter.unusedVariables false
namespace Go.Ab
def ZrF(op:Op):List Nat:=op.operands.toList.filterMap fun|.tmp t=>some t|_=>none
section
variable {P:Program}{G:Gmap}{ev ev':Operand→AV}{ol ol':Nat→Option AO}
theorem Zg4{place:Nat→Option (Nat×Nat)}:∀(parts:List (Nat×Operand)) (cs:List AV),(∀x,x∈parts→ev' x.2=ev x.2)→fillA ev' place parts cs=fillA ev place parts cs:=by
 intro parts
 induction parts with
 |nil=>intro cs _;rfl
 |cons p r ih=>
  intro cs h
  obtain⟨i,x⟩:=p
  have hx:ev' x=ev x:=h (i,x) (by simp)
  simp only[fillA,hx];simp_all
theorem Zql(t:TypeId)(parts:Array (Nat×Operand)){x:Nat×Operand}(hx:x∈parts.toList):x.2∈(Op.build t parts).operands.toList:=by
 simp only[Op.operands]
 grind
theorem ZkO{op:Op}(h:∀x,x∈op.operands.toList→ev' x=ev x):pval P ev' op=pval P ev op:=by
 have one:∀x,x∈op.operands.toList→ev' x=ev x:=h
 cases op with
 |move x=>simp only[pval,one x (by simp[Op.operands])]
 |assign x=>simp only[pval,one x (by simp[Op.operands])]
 |fieldAddr s x i=>simp only[pval,one x (by simp[Op.operands])]
 |field s x i=>simp only[pval,one x (by simp[Op.operands])]
 |unOp op t x=>simp only[pval,one x (by simp[Op.operands])]
 |binOp op t x y t'=>simp only[pval,one x (by simp[Op.operands]),one y (by simp[Op.operands])]
 |extract t i=>simp only[pval,one t (by simp[Op.operands])]
 |build t parts=>
  simp only[pval,Zkp]
  have hp:∀x,x∈parts.toList→ev' x.2=ev x.2:=fun x hx=>h x.2 (Zql t parts hx)
  split
  ·rfl
  ·split
   ·split
    ·rw[Zg4 _ _ hp]
    ·rfl
   ·split
    ·rw[Zg4 _ _ hp]
    ·rfl
   ·rfl
 |makeFunc fn first cap=>
  cases fn with
  |func f=>
   simp only[pval]
   have h1:cap.toList.map ev'=cap.toList.map ev:=Wq (fun x hx=>h x (by simp only[Op.operands];simp_all))
   have h2:first.toList.map ev'=first.toList.map ev:=Wq (fun x hx=>h x (by simp only[Op.operands];simp_all))
   grind
  |_=>rfl
 |nilCheck x=>simp only[pval,one x (by simp[Op.operands])]
 |convert s d x=>simp only[pval,one x (by simp[Op.operands])]
 |call c=>
  obtain⟨callee,args,ts⟩:=c
  cases callee with
  |builtin b=>
   have hargs:∀x,x∈args.toList→ev' x=ev x:=fun x hx=>h x (by simp only[Op.operands,Call.operands];simp_all)
   cases b with
   |len=>
    simp only[pval]
    grind
   |max=>
    simp only[pval]
    grind
   |min=>
    simp only[pval]
    grind
   |_=>rfl
  |_=>rfl
 |_=>rfl
theorem Zl5{α β:Type}{f g:α→Option β}:∀{l:List α},(∀x,x∈l→f x=g x)→Zel f l=Zel g l:=by
 intro l
 induction l with
 |nil=>intro _;rfl
 |cons a r ih=>intro h;simp only[Zel];simp_all
theorem Zg5{V:List Nat}(h:∀o,o∈V→ol' o=ol o):∀n,ZaT V ol' n=ZaT V ol n:=by
 intro n
 induction n with
 |zero=>rfl
 |succ n ih=>
  funext x
  cases x with
  |osw o z=>
   simp only[ZaT];simp_all
  |osl o off len room=>
   simp only[ZaT];simp_all
  |ptr o r c=>
   simp only[ZaT];simp_all
  |agg cs=>simp only[ZaT,ih]
  |tup cs=>simp only[ZaT,ih]
  |fn f cs=>simp only[ZaT,ih]
  |_=>rfl
theorem Zmo{V:List Nat}(h:∀o,o∈V→ol' o=ol o)(n:Nat):frozen V ol' n=frozen V ol n:=by
 unfold frozen
 exact Zl5 (fun o ho=>by rw[h o ho,Zg5 h n])
theorem Zk7{o:Option Operand}{d n:Nat}(h:∀x,o=some x→ev' x=ev x)(hb:bndP ev o d n):bndP ev' o d n:=by
 cases o with
 |none=>exact hb
 |some x=>
  obtain⟨k,i,h1,h2⟩:=hb
  exact⟨k,i,by simp_all,h2⟩
theorem Zgi{x:AV}{q:Bool×List (List AV)×List Nat}(hx:listA ol x=some q)(h:∀o,o∈q.2.2→ol' o=ol o):listA ol' x=some q:=by
 cases x with
 |osw o z=>
  have key:ol' o=ol o→listA ol' (.osw o z)=some q:=by intro e;simp only[listA,e]at hx⊢;exact hx
  simp only[listA]at hx
  grind
 |osl o a b c=>
  have key:ol' o=ol o→listA ol' (.osl o a b c)=some q:=by intro e;simp only[listA,e]at hx⊢;exact hx
  simp only[listA]at hx
  grind
 |_=>exact hx
theorem BStep.local{id:Nat}{op:Op}{v:AV}{U:List (Nat×Option AO)}{RO:List Nat}(h:BStep P ev ol id op v U RO)
 (hev:∀x,x∈op.operands.toList→ev' x=ev x) (hol:∀o,o∈RO∨o∈U.map (·.1)→ol' o=ol o):BStep P ev' ol' id op v U RO:=by
 have bnd:∀{t x lo hi mx},op=.slice t x lo hi mx→(ev' x=ev x)∧(∀d n,bndP ev lo d n→bndP ev' lo d n)∧(∀d n,bndP ev hi d n→bndP ev' hi d n)∧(∀y,hi=some y→ev' y=ev y)∧(∀y,mx=some y→ev' y=ev y):=by
  intro t x lo hi mx e;subst e
  have hx:=hev x (by simp[Op.operands])
  have hlo:∀y,lo=some y→ev' y=ev y:=fun y e=>by subst e;exact hev y (by simp[Op.operands])
  have hhi:∀y,hi=some y→ev' y=ev y:=fun y e=>by subst e;exact hev y (by simp[Op.operands])
  have hmx:∀y,mx=some y→ev' y=ev y:=fun y e=>by subst e;exact hev y (by simp[Op.operands])
  exact⟨hx,fun d n=>Zk7 hlo,fun d n=>Zk7 hhi,hhi,hmx⟩
 cases h with
 |slStr t x lo hi l a b hx ht ha hb hab hbl=>
  obtain⟨e1,e2,e3,_⟩:=bnd rfl
  exact .slStr t x lo hi l a b (by simp_all) ht (e2 _ _ ha) (e3 _ _ hb) hab hbl
 |slSl t x lo hi xs a b sz hx ht hl ha hb hab hbl=>
  obtain⟨e1,e2,e3,_⟩:=bnd rfl
  exact .slSl t x lo hi xs a b sz (by simp_all) ht hl (e2 _ _ ha) (e3 _ _ hb) hab hbl
 |slZero t x lo hh m k k' q sz hs hx ht ha h1 h2=>
  obtain⟨e1,e2,e3,e4,e5⟩:=bnd rfl
  exact .slZero t x lo hh m k k' q sz (by simp_all) (by rw[e1];exact Zgi hx (fun o ho=>hol o (.inl ho))) ht (e2 _ _ ha) (by simp_all) (by simp_all)
 |slOsw t x lo hi o z a b sz y rs hx ho hy hr ht ha hb hab hbl=>
  obtain⟨e1,e2,e3,_⟩:=bnd rfl
  exact .slOsw t x lo hi o z a b sz y rs (by simp_all) (by simp_all) hy hr ht (e2 _ _ ha) (e3 _ _ hb) hab hbl
 |cutW t x hi o z b rs hx ho hr ht hb hbl=>
  obtain⟨e1,e2,e3,_⟩:=bnd rfl
  exact .cutW t x hi o z b rs (by simp_all) (by simp_all) hr ht (e3 _ _ hb) hbl
 |slOsl t x lo hi o off len room a b sz y rs hx ho hy hr ht ha hb hab hbl hbr=>
  obtain⟨e1,e2,e3,_⟩:=bnd rfl
  exact .slOsl t x lo hi o off len room a b sz y rs (by simp_all) (by simp_all) hy hr ht (e2 _ _ ha) (e3 _ _ hb) hab hbl hbr
 |mkSl t l c k k' n m z sz hl hc h0 h1 h2 ht hz=>
  exact .mkSl t l c k k' n m z sz (by rw[hev l (by simp[Op.operands])];exact hl) (by rw[hev c (by simp[Op.operands])];exact hc) h0 h1 h2 ht hz
 |bldSl t len parts z cs sz ht hz hlim hlim2 hcl hall hf=>
  refine .bldSl t len parts z cs sz ht hz hlim hlim2 hcl hall ?_
  rw[Zg4 _ _ (fun x hx=>hev x.2 (by simp only[Op.operands];grind))]
  exact hf
 |appE t tx s x q sz hs hx ht htx hr hlim=>
  refine .appE t tx s x q sz (by rw[hev s (by simp[Op.operands,Call.operands])];exact hs) ?_ ht htx hr hlim
  rw[hev x (by simp[Op.operands,Call.operands])]
  exact Zgi hx (fun o ho=>hol o (.inl ho))
 |appW t tx s x q sz o z p rs hs hz ho hx ht htx hr hr' hlim=>
  refine .appW t tx s x q sz o z p rs (by rw[hev s (by simp[Op.operands,Call.operands])];exact hs) hz (by simp_all) ?_ ht htx hr hr' hlim
  rw[hev x (by simp[Op.operands,Call.operands])]
  exact Zgi hx (fun o ho=>hol o (.inl ho))
 |toBytes s d x l hx ht hl=>exact .toBytes s d x l (by rw[hev x (by simp[Op.operands])];exact hx) ht hl
 |toStr s d x l q hs hx hl ht=>
  have e1:=hev x (by simp[Op.operands])
  exact .toStr s d x l q (by simp_all) (by rw[e1];exact Zgi hx (fun o ho=>hol o (.inl ho))) hl ht
 |mkMap t h=>exact .mkMap t h
 |mkMapN t x k n h hx=>exact .mkMapN t x k n h (by rw[hev x (by simp[Op.operands])];exact hx)
 |mapUpd _ t kt m k x hop o pf es r hm ho ht hk hr hlim vx hwx=>
  have e1:ev' m=ev m:=hev m (by rcases hop with rfl|rfl<;>simp[Op.operands])
  have e2:ev' k=ev k:=hev k (by rcases hop with rfl|rfl<;>simp[Op.operands])
  have e3:ev' x=ev x:=hev x (by rcases hop with rfl|rfl<;>simp[Op.operands])
  have:=BStep.mapUpd (P:=P) (ev:=ev') (ol:=ol') (id:=id) op t kt m k x hop o pf es r (by simp_all) (by simp_all) ht (by simp_all) (by simp_all) hlim vx (by simp_all)
  simp_all
 |look t kt m k ok o pf es r v hm ho ht hk hr hv=>
  have e1:ev' m=ev m:=hev m (by simp[Op.operands])
  have e2:ev' k=ev k:=hev k (by simp[Op.operands])
  exact .look t kt m k ok o pf es r v (by simp_all) (by simp_all) ht (by simp_all) (by simp_all) hv
 |lookN t kt vt m k ok v hm ht hk hvt hz=>
  have e1:ev' m=ev m:=hev m (by simp[Op.operands])
  have e2:ev' k=ev k:=hev k (by simp[Op.operands])
  exact .lookN t kt vt m k ok v (by simp_all) ht (by simp_all) hvt hz
theorem FStep.local{id:Nat}{op:Op}{v:AV}{U:List (Nat×Option AO)}{RO:List Nat}(h:FStep P ev ol id op v U RO)
 (hev:∀x,x∈op.operands.toList→ev' x=ev x) (hol:∀o,o∈RO∨o∈U.map (·.1)→ol' o=ol o):FStep P ev' ol' id op v U RO:=by
 cases h with
 |look t kt m k ok o z fs i e hm ho ht hk hr he=>
  have e1:ev' m=ev m:=hev m (by simp[Op.operands])
  have e2:ev' k=ev k:=hev k (by simp[Op.operands])
  exact .look t kt m k ok o z fs i e (by simp_all) (by simp_all) ht (by simp_all) (by simp_all) he
 |peek t kt m k o z fs h r hm ho ht hk hr hz=>
  have e1:ev' m=ev m:=hev m (by simp[Op.operands])
  have e2:ev' k=ev k:=hev k (by simp[Op.operands])
  exact .peek t kt m k o z fs h r (by simp_all) (by simp_all) ht (by simp_all) (by simp_all) hz
 |lookNo t kt m k ok o z fs h v hm ho ht hk hr hv=>
  have e1:ev' m=ev m:=hev m (by simp[Op.operands])
  have e2:ev' k=ev k:=hev k (by simp[Op.operands])
  exact .lookNo t kt m k ok o z fs h v (by simp_all) (by simp_all) ht (by simp_all) (by simp_all) hv
 |upd _ t kt m k x hop o z q fs h r rs hm ho ht hk hr hh hlim hx hq hl hz hne=>
  have e1:ev' m=ev m:=hev m (by rcases hop with rfl|rfl<;>simp[Op.operands])
  have e2:ev' k=ev k:=hev k (by rcases hop with rfl|rfl<;>simp[Op.operands])
  have e3:ev' x=ev x:=hev x (by rcases hop with rfl|rfl<;>simp[Op.operands])
  have:=FStep.upd (P:=P) (ev:=ev') (ol:=ol') (id:=id) op t kt m k x hop o z q fs h r rs (by simp_all) (by simp_all) ht (by simp_all) (by simp_all) hh hlim (by simp_all) (by simp_all) hl hz hne
  simp_all
 |del t tk kt m k o z fs h r hm ho ht hk hr hh=>
  have e1:ev' m=ev m:=hev m (by simp[Op.operands,Call.operands])
  have e2:ev' k=ev k:=hev k (by simp[Op.operands,Call.operands])
  exact .del t tk kt m k o z fs h r (by simp_all) (by simp_all) ht (by simp_all) (by simp_all) hh
 |copy t ts d s o off len p rs q sz ho hdst hs ht hr hr'=>
  have e1:ev' d=ev d:=hev d (by simp[Op.operands,Call.operands])
  have e2:ev' s=ev s:=hev s (by simp[Op.operands,Call.operands])
  have ho':ol' o=some (.rows p rs):=by rw[hol o (by simp)];exact ho
  refine .copy t ts d s o off len p rs q sz ho' (by simp_all) ?_ ht hr hr'
  rw[e2];exact Zgi hs (fun o ho=>hol o (.inl ho))
 |delM t tk kt m k o p es r hm ho ht hk hr=>
  have e1:ev' m=ev m:=hev m (by simp[Op.operands,Call.operands])
  have e2:ev' k=ev k:=hev k (by simp[Op.operands,Call.operands])
  exact .delM t tk kt m k o p es r (by simp_all) (by simp_all) ht (by simp_all) (by simp_all)
 |len x ts args t o z fs h ha hts ht hx ho=>
  exact .len x ts args t o z fs h ha hts ht (by rw[hev x (by simp only[Op.operands,Call.operands];grind)];exact hx) (by simp_all)
 |nilqW t t' e x o z p rs hx ho ht=>exact .nilqW t t' e x o z p rs (by rw[hev x (by simp[Op.operands])];exact hx) (by simp_all) ht
 |clr t x o off len room p rs z sz h ho ht hz hr hbr=>
  exact .clr t x o off len room p rs z sz (by rw[hev x (by simp[Op.operands,Call.operands])];exact h) (by simp_all) ht hz hr hbr
 |mk t z h=>exact .mk t z h
 |litS t len parts z cs ht hz h1 h2 h3 h4 h5 h6 hf=>
  refine .litS t len parts z cs ht hz h1 h2 h3 h4 h5 h6 ?_
  rw[Zg4 _ _ (fun x hx=>hev x.2 (by simp only[Op.operands];grind))];exact hf
 |allocV t cs k z hz hk=>exact .allocV t cs k z hz hk
 |boxV t x cs k z hc hk=>exact .boxV t x cs k z (by rw[hev x (by simp[Op.operands])];exact hc) hk
 |buildV t parts cs k z hb hk=>
  have e:pval P ev' (.build t parts)=pval P ev (.build t parts):=ZkO hev
  simp only[pval]at e
  exact .buildV t parts cs k z (by simp_all) hk
 |cnv s d x o rs hx ho ht=>exact .cnv s d x o rs (by rw[hev x (by simp[Op.operands])];exact hx) (by simp_all) ht
theorem GStep.local{id:Nat}{op:Op}{v:AV}{U:List (Nat×Option AO)}{RO:List Nat}(h:GStep P ev ol id op v U RO)
 (hev:∀x,x∈op.operands.toList→ev' x=ev x) (hol:∀o,o∈RO∨o∈U.map (·.1)→ol' o=ol o):GStep P ev' ol' id op v U RO:=by
 cases h with
 |look t kt m k ok o es i e hm ho ht hk hr he hW=>
  have e1:ev' m=ev m:=hev m (by simp[Op.operands])
  have e2:ev' k=ev k:=hev k (by simp[Op.operands])
  exact .look t kt m k ok o es i e (by simp_all) (by simp_all) ht (by simp_all) (by simp_all) he hW
 |same t kt m k ok o q es i hm ho ht hk hr=>
  have e1:ev' m=ev m:=hev m (by simp[Op.operands])
  have e2:ev' k=ev k:=hev k (by simp[Op.operands])
  exact .same t kt m k ok o q es i (by simp_all) (by simp_all) ht (by simp_all) (by simp_all)
 |lookNo t kt m k ok o es h v hm ho ht hk hr hv=>
  have e1:ev' m=ev m:=hev m (by simp[Op.operands])
  have e2:ev' k=ev k:=hev k (by simp[Op.operands])
  exact .lookNo t kt m k ok o es h v (by simp_all) (by simp_all) ht (by simp_all) (by simp_all) hv
 |put _ t kt m k x hop o q es hm ho ht hk hr hlim hx g0=>
  have e1:ev' m=ev m:=hev m (by rcases hop with rfl|rfl<;>simp[Op.operands])
  have e2:ev' k=ev k:=hev k (by rcases hop with rfl|rfl<;>simp[Op.operands])
  have e3:ev' x=ev x:=hev x (by rcases hop with rfl|rfl<;>simp[Op.operands])
  have:=GStep.put (P:=P) (ev:=ev') (ol:=ol') (id:=id) op t kt m k x hop o q es (by simp_all) (by simp_all) ht (by simp_all) (by simp_all) hlim (by simp_all) g0
  simp_all
 |mk t h=>exact .mk t h
theorem AStep.local{id:Nat}{op:Op}{v:AV}{U:List (Nat×Option AO)}{RO:List Nat}(h:AStep P G ev ol id op v U RO)
 (hev:∀x,x∈op.operands.toList→ev' x=ev x) (hol:∀o,o∈RO∨o∈U.map (·.1)→ol' o=ol o):AStep P G ev' ol' id op v U RO:=by
 cases h with
 |more op v U RO h=>exact .more op v U RO (h.local hev hol)
 |files op v U RO h=>exact .files op v U RO (h.local hev hol)
 |graphs op v U RO h=>exact .graphs op v U RO (h.local hev hol)
 |pure op v h=>exact .pure op v (by rw[ZkO hev];exact h)
 |nil z=>exact .nil z
 |pick c a b t h=>
  have hc:=hev c (by simp[Op.operands])
  have:=AStep.pick (P:=P) (G:=G) (ev:=ev') (ol:=ol') (id:=id) c a b t (by simp_all)
  rw[hev a (by simp[Op.operands]),hev b (by simp[Op.operands])]at this
  exact this
 |alloc t cs h=>exact .alloc t cs h
 |box t x cs h=>exact .box t x cs (by rw[hev x (by simp[Op.operands])];exact h)
 |load t a o i c p rs row v h ho hr hl=>exact .load t a o i c p rs row v (by rw[hev a (by simp[Op.operands])];exact h) (by simp_all) hr hl
 |loadf t a o i c rs row v h ho hr hl=>exact .loadf t a o i c rs row v (by rw[hev a (by simp[Op.operands])];exact h) (by simp_all) hr hl
 |loadr t a row c v h hl=>exact .loadr t a row c v (by rw[hev a (by simp[Op.operands])];exact h) hl
 |store t a x o i c p rs row cs b n h ho hr hc hk hn hb=>
  exact .store t a x o i c p rs row cs b n (by rw[hev a (by simp[Op.operands])];exact h) (by simp_all) hr (by rw[hev x (by simp[Op.operands])];exact hc) hk hn hb
 |storeZ t a x o i c p rs row b q z xs h ho hr hx hq hne hk hb=>
  exact .storeZ t a x o i c p rs row b q z xs (by rw[hev a (by simp[Op.operands])];exact h) (by simp_all) hr (by rw[hev x (by simp[Op.operands])];exact hx) (by simp_all) hne hk hb
 |storeV t a x o i c p rs row b z h ho hr hx hk hb=>
  exact .storeV t a x o i c p rs row b z (by rw[hev a (by simp[Op.operands])];exact h) (by simp_all) hr (by rw[hev x (by simp[Op.operands])];exact hx) hk hb
 |idxSl t e x ix xs k n row b h hi h0 hr ht hk=>exact .idxSl t e x ix xs k n row b (by rw[hev x (by simp[Op.operands])];exact h) (by rw[hev ix (by simp[Op.operands])];exact hi) h0 hr ht hk
 |idxOsw t e x ix o z k n y rs row b h hi h0 ho hy hr ht hk=>
  exact .idxOsw t e x ix o z k n y rs row b (by rw[hev x (by simp[Op.operands])];exact h) (by rw[hev ix (by simp[Op.operands])];exact hi) h0 (by simp_all) hy hr ht hk
 |idxOsl t e x ix o off len room k n y rs row b h hi h0 h1 ho hy hr ht hk=>
  exact .idxOsl t e x ix o off len room k n y rs row b (by rw[hev x (by simp[Op.operands])];exact h) (by rw[hev ix (by simp[Op.operands])];exact hi) h0 h1 (by simp_all) hy hr ht hk
 |idxArr t e x ix o r c len sz k n b h hi h0 h1 ht hk=>exact .idxArr t e x ix o r c len sz k n b (by rw[hev x (by simp[Op.operands])];exact h) (by rw[hev ix (by simp[Op.operands])];exact hi) h0 h1 ht hk
 |idxArrR t e x ix row c len sz k n b h hi h0 h1 ht hk=>exact .idxArrR t e x ix row c len sz k n b (by rw[hev x (by simp[Op.operands])];exact h) (by rw[hev ix (by simp[Op.operands])];exact hi) h0 h1 ht hk
 |strIx t x ix l k n c h hi h0 hr ht=>exact .strIx t x ix l k n c (by rw[hev x (by simp[Op.operands])];exact h) (by rw[hev ix (by simp[Op.operands])];exact hi) h0 hr ht
 |arrIx t e x ix cs len sz k n b v h hi h0 h1 ht hk hl=>exact .arrIx t e x ix cs len sz k n b v (by rw[hev x (by simp[Op.operands])];exact h) (by rw[hev ix (by simp[Op.operands])];exact hi) h0 h1 ht hk hl
 |quo t t' x y k a b hx hy h0=>exact .quo t t' x y k a b (by rw[hev x (by simp[Op.operands])];exact hx) (by rw[hev y (by simp[Op.operands])];exact hy) h0
 |rem t t' x y k a b hx hy h0=>exact .rem t t' x y k a b (by rw[hev x (by simp[Op.operands])];exact hx) (by rw[hev y (by simp[Op.operands])];exact hy) h0
 |shl t t' x y k k' a b hx hy h0=>exact .shl t t' x y k k' a b (by rw[hev x (by simp[Op.operands])];exact hx) (by rw[hev y (by simp[Op.operands])];exact hy) h0
 |shr t t' x y k k' a b hx hy h0=>exact .shr t t' x y k k' a b (by rw[hev x (by simp[Op.operands])];exact hx) (by rw[hev y (by simp[Op.operands])];exact hy) h0
 |cat t t' x y a b hx hy h=>exact .cat t t' x y a b (by rw[hev x (by simp[Op.operands])];exact hx) (by rw[hev y (by simp[Op.operands])];exact hy) h
 |eqAgg t t' x y cs ds r hx hy hp hg hst hc hd h=>
  exact .eqAgg t t' x y cs ds r (by rw[hev x (by simp[Op.operands])];exact hx) (by rw[hev y (by simp[Op.operands])];exact hy) hp hg hst hc hd h
 |neAgg t t' x y cs ds r hx hy hp hg hst hc hd h=>
  exact .neAgg t t' x y cs ds r (by rw[hev x (by simp[Op.operands])];exact hx) (by rw[hev y (by simp[Op.operands])];exact hy) hp hg hst hc hd h
 |nilq t t' e x xs hx ht=>exact .nilq t t' e x xs (by rw[hev x (by simp[Op.operands])];exact hx) ht
 |lenOsw x ts args t e o z y rs ha hts ht h ho hy=>
  exact .lenOsw x ts args t e o z y rs ha hts ht (by rw[hev x (by simp only[Op.operands,Call.operands];grind)];exact h) (by simp_all) hy
 |call fn args ts f cap V n argsC rv h hv hf hfl=>
  have hm:args.toList.map ev'=args.toList.map ev:=Wq (fun x hx=>hev x (by simp only[Op.operands,Call.operands];simp_all))
  refine .call fn args ts f cap _ n argsC _ (by rw[hev fn (by simp[Op.operands,Call.operands])];exact h) ?_ hf hfl
  rw[hm,Zg5 (fun o ho=>hol o (.inl ho))];exact hv
 |callF fn args ts f cap V n argsC rv os' U h hv hf hU=>
  have hm:args.toList.map ev'=args.toList.map ev:=Wq (fun x hx=>hev x (by simp only[Op.operands,Call.operands];simp_all))
  refine .callF fn args ts f cap _ n argsC rv os' U (by rw[hev fn (by simp[Op.operands,Call.operands])];exact h) ?_ hf ?_
  ·rw[hm,Zg5 (fun o ho=>hol o (.inl ho))];exact hv
  ·rw[Zmo (fun o ho=>hol o (.inl ho))];exact hU
 |callG fn args ts f cap _ oin argsC rv os' h hh hf=>
  have hm:args.toList.map ev'=args.toList.map ev:=Wq (fun x hx=>hev x (by simp only[Op.operands,Call.operands];simp_all))
  refine .callG fn args ts f cap _ oin argsC rv os' (by rw[hev fn (by simp[Op.operands,Call.operands])];exact h) ?_ hf
  refine⟨hh.ok,hh.keys,?_,by rw[hm];exact hh.args⟩
  have e:RO.map ol'=RO.map ol:=Wq (fun o ho=>hol o (.inl ho))
  rw[e];exact hh.objs
inductive ZStep(P:Program)(G:Gmap)(ev:Operand→AV)(ol:Nat→Option AO)(id:Nat)(op:Op):AV→List (Nat×Option AO)→List Nat→Prop
 |of {v:AV} {U:List (Nat×Option AO)} {RO:List Nat} (h:AStep P G ev ol id op v U RO):ZStep P G ev ol id op v U RO
 |same {v:AV} {U:List (Nat×Option AO)} {RO RO':List Nat} (h:AStep P G ev ol id op v U RO) (hs:updO ol U=ol) (hr:∀o,o∈RO∨o∈U.map (·.1)→o∈RO'):ZStep P G ev ol id op v [] RO'
theorem Zr0{os1 os2:Nat→Option AO}{o:Nat}:∀{V:List (Nat×Option AO)},o∈V.map (·.1)→updO os1 V o=updO os2 V o:=by
 intro V
 induction V with
 |nil=>simp
 |cons e r ih=>
  intro h;simp only[updO]
  grind
theorem Zni{os:Nat→Option AO}:∀{U:List (Nat×Option AO)} {o:Nat},o∉U.map (·.1)→updO os U o=os o:=by
 intro U
 induction U with
 |nil=>intro o _;rfl
 |cons e r ih=>
  intro o h;simp only[Yp,Yj,not_or]at h;simp only[updO,h.1,Y9]
  grind
theorem ZoN{ol ol':Nat→Option AO}{U:List (Nat×Option AO)}(hs:updO ol U=ol)(hk:∀o,o∈U.map (·.1)→ol' o=ol o):updO ol' U=ol':=by
 funext o
 by_cases ho:o∈U.map (·.1)
 ·rw[Zr0 (os2:=ol) ho,hs,hk o ho]
 ·rw[Zni ho]
theorem ZStep.local{id:Nat}{op:Op}{v:AV}{U:List (Nat×Option AO)}{RO:List Nat}(h:ZStep P G ev ol id op v U RO)
 (hev:∀x,x∈op.operands.toList→ev' x=ev x) (hol:∀o,o∈RO∨o∈U.map (·.1)→ol' o=ol o):ZStep P G ev' ol' id op v U RO:=by
 cases h with
 |of h=>exact .of (h.local hev hol)
 |same h hs hr=>exact .same (h.local hev (fun o ho=>hol o (.inl (hr o ho)))) (ZoN hs (fun o ho=>hol o (.inl (hr o (.inr ho))))) hr
theorem ZoL{os:Nat→Option AO}{A B:List (Nat×Option AO)}(h:∀e,e∈A→os e.1=e.2)(hB:∀e,e∈B→e.1∈A.map (·.1)):updO os (A++B)=os:=by
 funext o
 by_cases ho:o∈A.map (·.1)
 ·clear hB
  induction A with
  |nil=>simp at ho
  |cons e r ih=>
   simp only[YH,updO]
   grind
 ·refine Zni ?_
  grind
theorem ZoA{V:List Nat}{id:Nat}{ol:Nat→Option AO}{oin:List (Nat×AO)}(h2:oin.map (·.1)=List.range V.length)(h3:oin.map (fun e=>some (renO (bk V id) e.2))=V.map ol):
 updO ol (backU V id oin)=ol:=by
 have hl:oin.length=V.length:=by simpa using YI List.length h2
 have hk:∀(j:Nat) (hj:j<oin.length),oin[j].1=j:=fun j hj=>by
  have:(oin.map (·.1))[j]? =some oin[j].1:=by rw[Yl,Y3 hj];rfl
  grind
 refine ZoL (fun e he=>?_) (fun e he=>?_)
 ·obtain⟨x,hx,rfl⟩:=YK.1 he
  obtain⟨j,hj,rfl⟩:=YY hx
  have e1:bk V id oin[j].1=V[j]'(by omega):=by rw[hk j hj];simp[bk,show j<V.length by omega]
  have e2:(V.map ol)[j]? =some (ol (V[j]'(by omega))):=by rw[Yl,Y3 (by omega)];rfl
  grind
 ·obtain⟨o,ho,rfl⟩:=YK.1 he
  obtain⟨j,hj,rfl⟩:=YY ho
  rw[YN]
  refine YK.2 ⟨oin[j]'(by omega),We _,?_⟩
  show bk V id _=V[j]
  rw[hk j (by omega)];simp[bk,hj]
end
def wantA(ops:Array Oper)(g:Nat→AV)(o:Oper):Option Bool:=
 match o.guard with
 |none=>some true
 |some (j,want)=>match (ops[j]?).bind (·.dst)with
  |some d=>match g d with
   |.bool b=>some (b==want)
   |.tup _=>some false
   |_=>none
  |none=>none
def ZgU(ops:Array Oper)(o:Oper):List Nat:=
 o.dst.toList++(ZrF o.op++(match o.guard with|none=>[]|some (j,_)=>((ops[j]?).bind (·.dst)).toList))
abbrev Log:=Nat→List Nat×List Nat
inductive RStep(P:Program)(G:Gmap)(N:Sl)(ops:Array Oper)(nb:Nat)(L:Log)(f:FS)(i:Nat):FS→Prop
 |run (o:Oper) (v:AV) (U:List (Nat×Option AO)) (RO:List Nat) (ho:ops[i]? =some o) (hw:wantA ops f.g o=some true)
  (h:ZStep P G (evA G f.g) f.os (nb+i*W) o.op v U RO) (hd:∀d,o.dst=some d→N.lo≤d∧d<N.n) (hL:L i=(U.map (·.1),RO)):RStep P G N ops nb L f i (f.upd o.dst v U)
 |skip (o:Oper) (ho:ops[i]? =some o) (hw:wantA ops f.g o=some false) (hd:∀d,o.dst=some d→N.lo≤d∧d<N.n) (hL:L i=([],[])):RStep P G N ops nb L f i (f.upd o.dst (.tup []) [])
inductive RChain(P:Program)(G:Gmap)(N:Sl)(ops:Array Oper)(nb:Nat)(L:Log):List Nat→FS→FS→Prop
 |nil (f:FS):RChain P G N ops nb L [] f f
 |cons (i:Nat) (l:List Nat) (f f1 f2:FS) (h:RStep P G N ops nb L f i f1) (hr:RChain P G N ops nb L l f1 f2):RChain P G N ops nb L (i::l) f f2
def disj(a b:List Nat):Bool:=a.all fun x=>!b.contains x
def ZnB(ops:Array Oper)(L:Log)(i j:Nat):Bool:=
 match ops[i]?,ops[j]? with
 |some a,some b=>
  disj a.dst.toList (ZgU ops b)&&disj b.dst.toList (ZgU ops a)&&
  disj (L i).1 (L j).1&&disj (L i).1 (L j).2&&disj (L j).1 (L i).2
 |_,_=>false
theorem Zgx{a b:List Nat}(h:disj a b=true){x:Nat}(hx:x∈a):x∉b:=by
 have:=YF.1 h x hx
 simp_all
theorem ZgT{os:Nat→Option AO}:∀{U:List (Nat×Option AO)} {o:Nat},o∉U.map (·.1)→updO os U o=os o:=by
 intro U
 induction U with
 |nil=>intro o _;rfl
 |cons e r ih=>
  intro o h;simp only[Yp,Yj,not_or]at h;simp only[updO,h.1,Y9]
  grind
theorem ZoO{os:Nat→Option AO}{U U':List (Nat×Option AO)}(h:∀x,x∈U.map (·.1)→x∉U'.map (·.1)):updO (updO os U) U'=updO (updO os U') U:=by
 funext o
 by_cases h1:o∈U'.map (·.1)
 ·have h2:o∉U.map (·.1):=fun q=>h o q h1
  rw[ZgT h2 (os:=updO os U')]
  have:∀(os1 os2:Nat→Option AO) (V:List (Nat×Option AO)),o∈V.map (·.1)→updO os1 V o=updO os2 V o:=by
   intro os1 os2 V
   induction V with
   |nil=>simp
   |cons e r ih=>
    intro h;simp only[updO]
    grind
  grind
 ·rw[ZgT h1]
  by_cases h2:o∈U.map (·.1)
  ·have:∀(os1 os2:Nat→Option AO) (V:List (Nat×Option AO)),o∈V.map (·.1)→updO os1 V o=updO os2 V o:=by
    intro os1 os2 V
    induction V with
    |nil=>simp
    |cons e r ih=>
     intro h;simp only[updO]
     grind
   grind
  ·rw[ZgT h2,ZgT h2,ZgT h1]
theorem FS.upd_comm{f:FS}{d d':Option Nat}{v v':AV}{U U':List (Nat×Option AO)}(hd:∀x,x∈d.toList→x∉d'.toList)
 (hU:∀x,x∈U.map (·.1)→x∉U'.map (·.1)):(f.upd d v U).upd d' v' U'=(f.upd d' v' U').upd d v U:=by
 have e1:∀(f:FS) d v U,(f.upd d v U).os=updO f.os U:=fun _ _ _ _=>rfl
 have e2:∀(f:FS) d v U,(f.upd d v U).g=(f.put d v).g:=fun _ _ _ _=>rfl
 have e3:∀(f:FS) d v,(f.put d v).g=match d with|some k=>fun t=>if t=k then v else f.g t|none=>f.g:=by intro f d v;cases d<;>rfl
 have hg:((f.upd d v U).upd d' v' U').g=((f.upd d' v' U').upd d v U).g:=by
  rw[e2,e2,e3,e3]
  cases d with
  |none=>simp_all
  |some k=>cases d' with
   |none=>rfl
   |some k'=>
    have hne:k≠k':=by intro e;exact hd k (by simp) (by simp[e])
    grind
 have ho:((f.upd d v U).upd d' v' U').os=((f.upd d' v' U').upd d v U).os:=by
  rw[e1,e1,e1,e1];exact ZoO hU
 cases hA:(f.upd d v U).upd d' v' U' with
 |mk g os=>cases hB:(f.upd d' v' U').upd d v U with
  |mk g' os'=>simp_all
section
variable {P:Program}{G:Gmap}{N:Sl}{ops:Array Oper}{nb:Nat}{L:Log}
theorem upd_g(f:FS)(d:Option Nat)(v:AV)(U:List (Nat×Option AO))(t:Nat)(h:t∉d.toList):(f.upd d v U).g t=f.g t:=by
 cases d with
 |none=>rfl
 |some k=>
  show(if t=k then v else f.g t)=f.g t
  simp_all
theorem ZrB(f:FS)(d:Option Nat)(v:AV)(U:List (Nat×Option AO)):(f.upd d v U).os=updO f.os U:=rfl
theorem RStep.move{f f1:FS}{i:Nat}(h:RStep P G N ops nb L f i f1):∃(o:Oper) (v:AV) (U:List (Nat×Option AO)),ops[i]? =some o∧f1=f.upd o.dst v U∧
 U.map (·.1)=(L i).1∧
 ∀f':FS,(∀t,t∈ZgU ops o→f'.g t=f.g t)→(∀k,k∈(L i).1∨k∈(L i).2→f'.os k=f.os k)→RStep P G N ops nb L f' i (f'.upd o.dst v U):=by
 have hwant:∀(o:Oper) (f':FS),(∀t,t∈ZgU ops o→f'.g t=f.g t)→wantA ops f'.g o=wantA ops f.g o:=by
  intro o f' ht;unfold wantA
  cases hg:o.guard with
  |none=>rfl
  |some jw=>
   obtain⟨j,want⟩:=jw
   simp only
   cases hb:(ops[j]?).bind (·.dst)with
   |none=>rfl
   |some d=>
    simp only
    rw[ht d (by unfold ZgU;simp_all)]
 cases h with
 |run o v U RO ho hw hA hd hL=>
  refine⟨o,v,U,ho,rfl,by rw[hL],fun f' ht hk=>?_⟩
  refine .run o v U RO ho (by simp_all) (hA.local (fun x hx=>?_) (fun k hk'=>?_)) hd hL
  ·cases x with
   |tmp t=>
    show f'.g t=f.g t
    refine ht t ?_
    unfold ZgU ZrF
    grind
   |_=>rfl
  grind
 |skip o ho hw hd hL=>
  refine⟨o,.tup [],[],ho,rfl,by grind,fun f' ht hk=>?_⟩
  exact .skip o ho (by simp_all) hd hL
theorem RStep.swap{f f1 f2:FS}{i j:Nat}(h1:RStep P G N ops nb L f i f1)(h2:RStep P G N ops nb L f1 j f2)(hok:ZnB ops L i j=true):
 ∃f1',RStep P G N ops nb L f j f1'∧RStep P G N ops nb L f1' i f2:=by
 obtain⟨o,v,U,ho,rfl,hU,hmove⟩:=h1.move
 obtain⟨o',v',U',ho',rfl,hU',hmove'⟩:=h2.move
 unfold ZnB at hok;rw[ho,ho']at hok;simp only[Y8]at hok
 obtain⟨⟨⟨⟨k1,k2⟩,k3⟩,k4⟩,k5⟩:=hok
 refine⟨f.upd o'.dst v' U',hmove' f (fun t ht=>?_) (fun k hk=>?_),?_⟩
 ·rw[upd_g];intro hq;exact Zgx k1 hq ht
 ·rw[ZrB,ZgT];rw[hU];intro hq
  rcases hk with hk|hk
  ·exact Zgx k3 hq hk
  ·exact Zgx k4 hq hk
 ·have:=hmove (f.upd o'.dst v' U') (fun t ht=>?_) (fun k hk=>?_)
  ·rw[FS.upd_comm]at this
   ·exact this
   ·intro x hx hx'
    exact Zgx k2 hx (by unfold ZgU;simp_all)
   ·intro x hx hx'
    rw[hU']at hx;rw[hU]at hx';exact Zgx k3 hx' hx
  ·rw[upd_g];intro hq;exact Zgx k2 hq ht
  ·rw[ZrB,ZgT];rw[hU'];intro hq
   rcases hk with hk|hk
   ·exact Zgx k3 hk hq
   ·exact Zgx k5 hq hk
theorem RChain.front{i:Nat}:∀{a:List Nat} {b:List Nat} {f f2:FS},RChain P G N ops nb L (a++i::b) f f2→(∀j,j∈a→ZnB ops L j i=true)→
 RChain P G N ops nb L (i::(a++b)) f f2:=by
 intro a
 induction a with
 |nil=>simp
 |cons j r ih=>
  intro b f f2 h hok
  cases h with
  |cons _ _ _ f1 _ hj hr=>
   have:=ih hr (fun k hk=>hok k (by simp[hk]))
   cases this with
   |cons _ _ _ f3 _ hi hr'=>
    obtain⟨f1',h1,h2⟩:=hj.swap hi (hok j (by simp))
    exact .cons i _ f f1' f2 h1 (.cons j _ f1' f3 f2 h2 hr')
def Zmi(prev:List Nat)(o:Oper):Nat:=
 o.after.toList.foldl (fun s e=>if Region.binds .any e then s|||(2^e.on|||prev.getD e.on 0)else s) 0
def masks:List Oper→List Nat→List Nat
 | [],acc=>acc
 |o::r,acc=>masks r (acc++[Zmi acc o])
def ZiC(ops:Array Oper)(L:Log):Bool:=
 let m:=masks ops.toList []
 (ops.toList.zipIdx.all fun(o,i)=>o.after.toList.all fun e=>!Region.binds .any e||decide (e.on<i))&&
 (List.range ops.size).all fun i=>(List.range i).all fun j=>(m.getD i 0).testBit j||ZnB ops L j i
theorem ZkZ{prev:List Nat}{j:Nat}:∀(l:List Edge) (s:Nat),(l.foldl (fun s e=>if Region.binds .any e then s|||(2^e.on|||prev.getD e.on 0)else s) s).testBit j=true→
 s.testBit j=true∨∃e,e∈l∧Region.binds .any e=true∧(e.on=j∨(prev.getD e.on 0).testBit j=true):=by
 intro l
 induction l with
 |nil=>simp
 |cons e r ih=>
  intro s h;simp only[List.foldl_cons]at h
  grind
theorem Zmh:∀(l:List Oper) (acc:List Nat) (i:Nat),(∀k,k<acc.length→(masks l acc)[k]? =acc[k]?)∧
 (∀o,l[i]? =some o→∃prev,(masks l acc).getD (acc.length+i) 0=Zmi prev o∧∀k,k<acc.length+i→prev[k]? =(masks l acc)[k]?):=by
 intro l
 induction l with
 |nil=>intro acc i;exact⟨fun k _=>rfl,fun o h=>by simp at h⟩
 |cons o r ih=>
  intro acc i;simp only[masks]
  have h1:=(ih (acc++[Zmi acc o]) 0).1
  have hkeep:∀k,k<acc.length→(masks r (acc++[Zmi acc o]))[k]? =acc[k]? :=by
   intro k hk
   rw[h1 k (by grind),Yn hk]
  refine⟨hkeep,fun o' ho'=>?_⟩
  cases i with
  |zero=>
   grind
  |succ i=>
   obtain⟨prev,hp,hk⟩:=(ih (acc++[Zmi acc o]) i).2 o' (by simp_all)
   simp only[Yd,List.length_singleton]at hp hk
   grind
theorem Zoa{listed:Nat→Bool}(hcl:∀(i:Nat) o,ops[i]? =some o→listed i=true→∀e,e∈o.after.toList→Region.binds .any e=true→listed e.on=true)
 (hlt:∀(i:Nat) o,ops[i]? =some o→∀e,e∈o.after.toList→Region.binds .any e=true→e.on<i):
 ∀(n i:Nat) o,i≤n→ops[i]? =some o→(∀e,e∈o.after.toList→Region.binds .any e=true→listed e.on=true)→
  ∀j,((masks ops.toList []).getD i 0).testBit j=true→listed j=true:=by
 intro n
 induction n with
 |zero=>
  intro i o hi ho hr j hj
  obtain⟨prev,hp,hk⟩:=(Zmh ops.toList [] i).2 o (by simp_all)
  simp only[Yx,YR]at hp hk;rw[hp]at hj
  rcases ZkZ _ _ hj with h|⟨e,he,hb,h⟩
  all_goals grind
 |succ n ih=>
  intro i o hi ho hr j hj
  obtain⟨prev,hp,hk⟩:=(Zmh ops.toList [] i).2 o (by simp_all)
  simp only[Yx,YR]at hp hk;rw[hp]at hj
  rcases ZkZ _ _ hj with h|⟨e,he,hb,h⟩
  ·simp at h
  ·have hlist:=hr e he hb
   rcases h with h|h
   ·simp_all
   ·have hei:=hlt i o ho e he hb
    have:(masks ops.toList []).getD e.on 0=prev.getD e.on 0:=by
     rw[W4,W4,hk e.on hei]
    rw[←this]at h
    have hesz:e.on<ops.size:=by
     have:i<ops.size:=by
      rcases YX i ops.size with q|q
      ·exact q
      ·simp_all
     omega
    exact ih e.on ops[e.on] (by omega) (YJ hesz) (hcl e.on _ (YJ hesz) hlist) j h
theorem Zmt{p:Nat→Bool}{i:Nat}:∀(l:List Nat),l.Pairwise (· < ·)→i∈l→p i=true→
 ∃a b,l.filter p=a++i::b∧(∀j,j∈a→j<i∧p j=true)∧l.filter (fun k=>p k&&decide (k≠i))=a++b:=by
 intro l
 induction l with
 |nil=>simp
 |cons x r ih=>
  intro hp hi hpi
  have hpr:=(List.pairwise_cons.1 hp)
  cases hi with
  |head=>
   refine⟨[],r.filter p,by simp[hpi],by simp,?_⟩
   rw[Wt,if_neg (by simp),YO]
   apply List.filter_congr;intro k hk
   have:=hpr.1 k hk
   simp;omega
  |tail _ hi=>
   obtain⟨a,b,h1,h2,h3⟩:=ih hpr.2 hi hpi
   have hxi:=hpr.1 i hi
   grind
theorem Zjl(n:Nat):(List.range n).Pairwise (· < ·):=List.pairwise_lt_range
theorem ZpI(hok:ZiC ops L=true){f':FS}:∀(fuel t:Nat) (listed:Array Bool) (acc:List Nat) (f:FS),listed.size=ops.size→
 (∀(i:Nat) o,ops[i]? =some o→listed.getD i true=true→∀e,e∈o.after.toList→Region.binds .any e=true→listed.getD e.on true=true)→
 ((List.range ops.size).filter fun i=>!listed.getD i true).length≤fuel→
 RChain P G N ops nb L ((List.range ops.size).filter fun i=>!listed.getD i true) f f'→
 ∃rest,Region.linearise.go .any ops fuel t listed acc=acc.reverse++rest∧RChain P G N ops nb L rest f f'∧rest.Nodup∧∀i,i∈rest→i<ops.size∧listed.getD i true=false:=by
 unfold ZiC at hok;simp only[Y8]at hok
 obtain⟨hedge,hpairs⟩:=hok
 have hlt:∀(i:Nat) o,ops[i]? =some o→∀e,e∈o.after.toList→Region.binds .any e=true→e.on<i:=by
  intro i o ho e he hb
  have:=YF.1 hedge (o,i) (by
   grind)
  have:=YF.1 this e he
  simpa[hb]using this
 intro fuel
 induction fuel with
 |zero=>
  intro t listed acc f hsz hcl hlen hch
  have he:(List.range ops.size).filter (fun i=>!listed.getD i true)=[]:=Yt.1 (by omega)
  rw[he]at hch
  exact⟨[],by simp[Region.linearise.go],hch,by simp,by simp⟩
 |succ fuel ih=>
  intro t listed acc f hsz hcl hlen hch;simp only[Region.linearise.go]
  generalize hrs:(List.range ops.size).filter (fun i=>!listed.getD i true&&((ops[i]?).map (·.after.all fun e=>!Region.binds .any e||listed.getD e.on false)).getD false)=rs
  cases hpick:rs[t% rs.length]? with
  |none=>
   have hrs0:rs=[]:=by
    cases hr:rs with
    |nil=>rfl
    |cons x r=>
     rw[hr]at hpick
     rw[Y3 (Nat.mod_lt _ (by simp))]at hpick
     grind
   have he:(List.range ops.size).filter (fun i=>!listed.getD i true)=[]:=by
    cases hr:(List.range ops.size).filter (fun i=>!listed.getD i true)with
    |nil=>rfl
    |cons x r=>
     exfalso
     have hx:x∈(List.range ops.size).filter (fun i=>!listed.getD i true):=by rw[hr];simp
     have hx':=Wn.1 hx
     have hxs:x<ops.size:=by simpa using hx'.1
     have hsort:(x::r).Pairwise (· < ·):=by rw[←hr];exact(Zjl _).filter _
     have hmin:∀j,j<x→listed.getD j true=true:=by
      intro j hj
      cases hlj:listed.getD j true with
      |true=>rfl
      |false=>
       have:j∈(List.range ops.size).filter (fun i=>!listed.getD i true):=Wn.2 ⟨by grind,by grind⟩
       rw[hr]at this
       cases this with
       |head=>omega
       |tail _ h=>have:=(List.pairwise_cons.1 hsort).1 j h;omega
     have:x∈rs:=by
      rw[←hrs]
      refine Wn.2 ⟨hx'.1,?_⟩
      simp only[Y8]
      refine⟨hx'.2,?_⟩
      rw[YJ hxs]
      simp only[Yq,Yu];rw[←Array.all_toList,YF];intro e he
      by_cases hb:Region.binds .any e=true
      ·grind
      ·simp[hb]
     grind
   grind
  |some i=>
   simp only
   have hi:i∈rs:=YA hpick
   rw[←hrs]at hi
   have hi':=Wn.1 hi
   have his:i<ops.size:=by simpa using hi'.1
   simp only[Y8]at hi'
   obtain⟨_,hun,hready⟩:=hi'
   rw[YJ his]at hready
   simp only[Yq,Yu]at hready
   have hpred:∀e,e∈(ops[i]).after.toList→Region.binds .any e=true→listed.getD e.on true=true:=by
    intro e he hb;rw[←Array.all_toList,YF]at hready
    have:=hready e he
    simp only[hb,YP,Bool.false_or]at this
    have hlt':=hlt i _ (YJ his) e he hb
    have hes:e.on<listed.size:=by omega
    simp only[YU,YJ hes,Yu]at this⊢
    exact this
   obtain⟨a,b,h1,h2,h3⟩:=Zmt (p:=fun i=>!listed.getD i true) (List.range ops.size) (Zjl _) (by omega) hun
   rw[h1]at hch
   have hfront:=hch.front (fun j hj=>by
    obtain⟨hji,hju⟩:=h2 j hj
    have:=YF.1 hpairs i (by omega)
    have:=YF.1 this j (by grind)
    simp only[Bool.or_eq_true]at this
    rcases this with hm|hm
    ·exfalso
     have:=Zoa (ops:=ops) (listed:=fun k=>listed.getD k true) hcl hlt i i ops[i] (Yg _) (YJ his) hpred j hm
     grind
    omega)
   cases hfront with
   |cons _ _ _ f1 _ hstep hrest=>
    have hset:∀k,(listed.setIfInBounds i true).getD k true=if k=i then true else listed.getD k true:=by
     intro k;simp only[YU]
     by_cases hk:k=i
     ·grind
     ·grind
    have hfil:(List.range ops.size).filter (fun k=>!(listed.setIfInBounds i true).getD k true)=a++b:=by
     rw[←h3];apply List.filter_congr;intro k _;rw[hset]
     by_cases hk:k=i<;>simp[hk]
    obtain⟨rest,hr1,hr2,hr3,hr4⟩:=ih (t/rs.length) (listed.setIfInBounds i true) (i::acc) f1 (by grind) (fun k o ho hk e he hb=>by
     rw[hset]at hk⊢
     by_cases hki:k=i
     ·subst hki
      have:o=ops[k]:=by rw[YJ his]at ho;injection ho with ho;exact ho.symm
      subst this;split
      all_goals grind
     ·rw[if_neg hki]at hk
      split
      all_goals grind)
     (by grind) (by grind)
    refine⟨i::rest,by grind,.cons i rest f f1 f' hstep hr2,?_,?_⟩
    ·grind
    ·intro k hk
     cases hk with
     |head=>grind
     |tail _ hk=>
      have:=hr4 k hk
      refine⟨this.1,?_⟩
      have h5:=this.2
      rw[hset]at h5
      grind
theorem ZpH(hok:ZiC ops L=true){f f':FS}(h:RChain P G N ops nb L (List.range ops.size) f f')(t:Nat):
 RChain P G N ops nb L (Region.linearise .any ops t) f f'∧(Region.linearise .any ops t).Nodup∧∀i,i∈Region.linearise .any ops t→i<ops.size:=by
 have hfalse:∀i,i<ops.size→(Array.replicate ops.size false).getD i true=false:=by
  intro i hi;simp[YU,hi]
 have hfil:(List.range ops.size).filter (fun i=>!(Array.replicate ops.size false).getD i true)=List.range ops.size:=by
  rw[List.filter_eq_self];intro i hi
  rw[hfalse i (by simp_all)];rfl
 obtain⟨rest,h1,h2,h3,h4⟩:=ZpI hok ops.size t (Array.replicate ops.size false) [] f (by simp) (fun i o ho hl=>by
  grind) (by grind) (by rw[hfil];exact h)
 unfold Region.linearise;simp_all
end
abbrev WF(r:Option Nat):Fence:={Fence.wide with round:=r}
theorem roomW(r:Option Nat)(n:Nat):(WF r).room n:=room_wide n
theorem Ztl{r:Option Nat}{n:Nat}{P:Program}{f:FuncId}{args:Array Value}{w:World}{R:Ending→World→Prop}(h:Calls P f args w R):CallsIn (WF r) n P f args w R:=
 callsIn_wide.2 h
def Zjb:Op→Bool
 |.defer _=>true
 |_=>false
theorem rowsW{r:Option Nat}{n:Nat}{P:Program}{row:String}{args:Array Value}{w:World}{R:Value→World→Prop}(h:Rows P row args w R):RowsIn (WF r) n P row args w R:=
 fun c cs _=>by
  obtain⟨v,w',a,b⟩:=h c cs
  refine⟨v,w',a,?_⟩
  show StepsIn (Machine.fenced P Fence.wide) _ _ _
  exact stepsIn_wide.2 b
theorem operW{r:Option Nat}{n:Nat}{P:Program}{o:Oper}{a:Act}{w:World}{next:Act→World→Prop}{Q:Exit→Act→World→Prop}(hd:Zjb o.op=false)(h:o.wp P a w next Q):
 o.wpIn (WF r) n P a w next Q:=by
 refine⟨fun _ _=>trivial,?_⟩
 have e:Oper.semAt (WF r).round a.eval o=execOp a.eval o:=by
  cases r with
  |none=>rfl
  |some l=>exact Oper.semAt_some l _ _ (fun c hc=>by rw[hc]at hd;cases hd)
 rw[e];unfold Oper.wp at h;generalize (execOp a.eval o).run P w=X at h⊢
 cases X with
 |ok x w'=>
  cases x with
  |enter f args=>exact⟨fun h=>(by cases h),Ztl h⟩
  |row row args=>exact⟨fun h=>(by cases h),rowsW h⟩
  |round l f t x y=>exact h.elim
  |_=>exact h
 |halt x w'=>cases x<;>exact h
section
variable {P:Program}{C:Cx}{ops:Array Oper}{nb:Nat}{L:Log}{Q:Exit→Act→World→Prop}
theorem ZoJ{S:Nat→Prop}{ι:Imap}{un:Nat→Prop}{f:FS}{a:Act}{w:World}(h:Inv C S ι un f a w){o:Oper}{b:Bool}(hw:wantA ops f.g o=some b):
 Region.wanted o (yielded ops a.tmps)=b:=by
 unfold wantA at hw;unfold Region.wanted
 cases hg:o.guard with
 |none=>simp_all
 |some jw=>
  obtain⟨j,want⟩:=jw
  rw[hg]at hw;simp only at hw⊢;split at hw
  ·rename_i d hd
   split at hw
   ·rename_i c hc
    injection hw with hw
    subst hw
    have ht:=h.tm d
    rw[hc]at ht
    have hv:=ht.bool_inv
    have hsome:a.tmps[d]? =some (.bool c):=by
     rw[YU]at hv
     cases hq:a.tmps[d]? with
     |none=>rw[hq]at hv;simp[undef]at hv
     |some x=>simp_all
    unfold yielded;simp_all
   ·rename_i vs hc
    injection hw with hw
    subst hw
    have ht:=h.tm d
    rw[hc]at ht
    obtain⟨us,hv,_⟩:=ht.tup_inv
    have hne:∀b,a.tmps[d]? ≠some (.bool b):=by
     intro b hb;rw[YU,hb]at hv;simp at hv
    unfold yielded;simp_all
   grind
  grind
theorem ZqE{f:FS}{d:Option Nat}{v:AV}{U:List (Nat×Option AO)}(hs:updO f.os U=f.os):f.upd d v U=f.upd d v []:=by
 unfold FS.upd;rw[hs];rfl
theorem Zqz{S:Nat→Prop}{w:World}{ι:Imap}{un:Nat→Prop}{f:FS}{a:Act}{id:Nat}{o:Oper}{next:Act→World→Prop}
 {op:Op} {v:AV} {U:List (Nat×Option AO)} {RO:List Nat} (hop:o.op=op) (h:Inv C S ι un f a w)
 (hst:ZStep P C.G (evA C.G f.g) f.os id op v U RO) (hid:∀x,id≤x→x<id+W→un x) (hd:∀d,o.dst=some d→C.N.lo≤d∧d<C.N.n) (hn:Goes C un id o f v U next):
 o.wp P a w next Q:=by
 cases hst with
 |of hst=>exact ZoW hop h hst hid hd hn
 |same hst hs hr=>
  refine ZoW hop h hst hid hd (fun S' ι' a' w' hinv=>hn S' ι' a' w' ?_)
  exact(ZqE hs)▸hinv
theorem ZnX{r:Option Nat}:∀{l:List Nat} {f f':FS},RChain P C.G C.N ops nb L l f f'→l.Nodup→∀{S:Nat→Prop} {ι:Imap} {un:Nat→Prop} {a:Act} {w:World},
 Inv C S ι un f a w→(∀i,i∈l→∀x,nb+i*W≤x→x<nb+i*W+W→un x)→(∀i,i∈l→∀o,ops[i]? =some o→Zjb o.op=false)→
 (∀S' ι' a' w',Inv C S' ι' (fun x=>un x∧∀i,i∈l→¬(nb+i*W≤x∧x<nb+i*W+W)) f' a' w'→Q .normal a' w')→wpOpsIn (WF r) 0 P ops Q l a w:=by
 intro l f f' hch
 induction hch with
 |nil f=>
  intro _ S ι un a w h _ _ hQ
  exact hQ S ι a w (h.less (fun x hx=>hx.1))
 |cons i l f f1 f2 hstep _ ih=>
  intro hnd S ι un a w h hun hdf hQ
  obtain⟨hil,hnd'⟩:=V5.1 hnd
  have happart:∀k,k∈l→∀x,nb+k*W≤x→x<nb+k*W+W→¬(nb+i*W≤x∧x<nb+i*W+W):=by
   intro k hk x h1 h2 h3
   have:k≠i:=fun e=>hil (e▸hk)
   have hW:W=32:=rfl
   simp only[hW]at h1 h2 h3;omega
  cases hstep with
  |run o v U RO ho hw hA hd hL=>
   simp only[wpOpsIn,ho];rw[if_pos (ZoJ h hw)]
   refine operW (hdf i (by simp) o ho) (Zqz rfl h hA (fun x h1 h2=>hun i (by simp) x h1 h2) hd (fun S' ι' a' w' hinv=>?_))
   refine ih hnd' hinv (fun k hk x h1 h2=>⟨hun k (by simp[hk]) x h1 h2,happart k hk x h1 h2⟩) (fun k hk=>hdf k (by simp[hk])) (fun S2 ι2 a2 w2 hinv2=>?_)
   refine hQ S2 ι2 a2 w2 (hinv2.less (fun x hx=>⟨⟨hx.1,hx.2 i (by simp)⟩,fun k hk=>hx.2 k (by simp[hk])⟩))
  |skip o ho hw hd hL=>
   simp only[wpOpsIn,ho]
   rw[if_neg (by rw[ZoJ h hw];simp)]
   refine⟨fun _ _=>trivial,?_⟩
   have hinv:Inv C S ι un (f.upd o.dst (.tup []) []) (a.put o.dst undef) w:=by
    have:=h.put (dst:=o.dst) (v:=.tup []) (v':=undef) (.imm _ _ (.tup [] #[] rfl (fun j x v h=>by simp at h))) hd
    have e:f.upd o.dst (.tup []) []=f.put o.dst (.tup []):=by
     unfold FS.upd;cases o.dst<;>rfl
    rw[e];exact this
   refine ih hnd' hinv (fun k hk x h1 h2=>hun k (by simp[hk]) x h1 h2) (fun k hk=>hdf k (by simp[hk])) (fun S2 ι2 a2 w2 hinv2=>?_)
   refine hQ S2 ι2 a2 w2 (hinv2.less (fun x hx=>⟨hx.1,fun k hk=>hx.2 k (by simp[hk])⟩))
theorem Zl0{r:Option Nat}{idr:Nat}{draw:Bool}{f f':FS}(hm:P.follows .mixedOrders=true)(h:RChain P C.G C.N ops nb L (List.range ops.size) f f')
 (hd:draw=true→ZiC ops L=true) {S:Nat→Prop} {ι:Imap} {a:Act} {w:World} (hinv:Inv C S ι (fun x=>nb≤x) f a w)
 (hdf:∀o,o∈ops.toList→Zjb o.op=false)
 (hQ:∀S' ι' a' w',Inv C S' ι' (fun x=>nb+ops.size*W≤x) f' a' w'→Q .normal a' w'):(Code.region idr ops draw).wpIn (WF r) 0 P Q a w:=by
 have hdf':∀(i:Nat) (o:Oper),ops[i]? =some o→Zjb o.op=false:=fun i o ho=>hdf o (YA (by simpa using ho))
 have hun:∀(l:List Nat),(∀i,i∈l→i<ops.size)→∀S' ι' a' w',Inv C S' ι' (fun x=>nb≤x∧∀i,i∈l→¬(nb+i*W≤x∧x<nb+i*W+W)) f' a' w'→Q .normal a' w':=by
  intro l hl S' ι' a' w' hi
  refine hQ S' ι' a' w' (hi.less (fun x hx=>⟨by omega,fun i him=>?_⟩))
  have:=hl i him
  have:(i+1)*W≤ops.size*W:=Yo _ this
  rw[YT]at this;omega
 cases draw with
 |false=>
  refine wpIn_region ?_
  exact ZnX h List.nodup_range hinv (fun i _ x h1 _=>by omega) (fun i _=>hdf' i) (hun _ (fun i hi=>by simp_all))
 |true=>
  refine wpIn_region_draw (fun t=>?_)
  have e:Region.schedule (P.follows .mixedOrders) ops t=Region.linearise .any ops t:=by
   unfold Region.schedule;rw[hm];simp
  rw[e]
  obtain⟨h1,h2,h3⟩:=ZpH (hd rfl) h t
  exact ZnX h1 h2 hinv.drew (fun i _ x h1 _=>by omega) (fun i _=>hdf' i) (hun _ h3)
end
def brn(b:Bool)(A B:Prop):Prop:=Bool.rec (motive:=fun _=>Prop) B A b
def brc(b:Bool)(A B:Prop):Prop:=Bool.rec (motive:=fun _=>Prop) B A b
theorem brn_i{b:Bool}{A B:Prop}(h1:b=true→A)(h2:b=false→B):brn b A B:=by
 cases b
 ·exact h2 rfl
 ·exact h1 rfl
theorem brn_e{b:Bool}{A B:Prop}(h:brn b A B):(b=true∧A)∨(b=false∧B):=by
 cases b
 ·exact .inr ⟨rfl,h⟩
 ·exact .inl ⟨rfl,h⟩
def opt{α:Type}(x:Option α)(K:α→Prop):Prop:=Option.rec (motive:=fun _=>Prop) False (fun y=>K y) x
theorem opt_i{α:Type}{x:Option α}{K:α→Prop}(y:α)(h:x=some y)(hK:K y):opt x K:=by rw[h];exact hK
theorem opt_e{α:Type}{x:Option α}{K:α→Prop}(h:opt x K):∃y,x=some y∧K y:=by
 cases x with
 |none=>exact h.elim
 |some y=>exact⟨y,rfl,h⟩
mutual
def fAV:AV→(AV→Prop)→Prop
 |.int k n,K=>K (.int k n)
 |.bool b,K=>K (.bool b)
 |.str s,K=>K (.str s)
 |.esl,K=>K .esl
 |.sl xs,K=>K (.sl xs)
 |.agg cs,K=>fL cs fun cs=>K (.agg cs)
 |.tup cs,K=>fL cs fun cs=>K (.tup cs)
 |.rp row c,K=>K (.rp row c)
 |.fn f cs,K=>fL cs fun cs=>K (.fn f cs)
 |.con v,K=>K (.con v)
 |.ptr o r c,K=>K (.ptr o r c)
 |.osl o a b c,K=>K (.osl o a b c)
 |.osw o z,K=>K (.osw o z)
 |.mapo o,K=>K (.mapo o)
 |.undef,K=>K .undef
 |.anyb p,K=>K (.anyb p)
def fL:List AV→(List AV→Prop)→Prop
 | [],K=>K []
 |x::r,K=>fAV x fun x=>fL r fun r=>K (x::r)
end
mutual
theorem Ze2:∀(x:AV) (K:AV→Prop),fAV x K=K x
 |.int k n,K=>rfl
 |.bool b,K=>rfl
 |.str s,K=>rfl
 |.esl,K=>rfl
 |.sl xs,K=>rfl
 |.agg cs,K=>by simp only[fAV];rw[fL_eq]
 |.tup cs,K=>by simp only[fAV];rw[fL_eq]
 |.rp row c,K=>rfl
 |.fn f cs,K=>by simp only[fAV];rw[fL_eq]
 |.con v,K=>rfl
 |.ptr o r c,K=>rfl
 |.osl o a b c,K=>rfl
 |.osw o z,K=>rfl
 |.mapo o,K=>rfl
 |.undef,K=>rfl
 |.anyb p,K=>rfl
theorem fL_eq:∀(l:List AV) (K:List AV→Prop),fL l K=K l
 | [],K=>rfl
 |x::r,K=>by simp only[fL];rw[Ze2,fL_eq]
end
def fR:List (List AV)→(List (List AV)→Prop)→Prop
 | [],K=>K []
 |x::r,K=>fL x fun x=>fR r fun r=>K (x::r)
theorem fR_eq:∀(l:List (List AV)) (K:List (List AV)→Prop),fR l K=K l
 | [],K=>rfl
 |x::r,K=>by simp only[fR];rw[fL_eq,fR_eq]
abbrev Tm:=List (Nat×AV)
abbrev Os:=List (Nat×AO)
def lookG(g:Tm)(t:Nat):AV:=
 match g with
 | []=>.undef
 |(k,v)::r=>if t=k then v else lookG r t
def setO(k:Nat)(x:AO):Os→Os
 | []=>[(k,x)]
 |(k',y)::r=>if k=k' then(k,x)::r else(k',y)::setO k x r
def delO(k:Nat):Os→Os
 | []=>[]
 |(k',y)::r=>if k=k' then delO k r else(k',y)::delO k r
def updL(os:Os):List (Nat×Option AO)→Os
 | []=>os
 |(k,some x)::r=>setO k x (updL os r)
 |(k,none)::r=>delO k (updL os r)
theorem Zss(k:Nat)(x:AO):∀(os:Os) (o:Nat),lk (setO k x os) o=if o=k then some x else lk os o:=by
 intro os
 induction os with
 |nil=>intro o;rfl
 |cons e r ih=>
  intro o
  obtain⟨k',y⟩:=e
  simp only[setO]
  by_cases h:k=k'
  ·subst h
   simp only[Yh,lk]
   grind
  ·simp only[h,Y9,lk,ih]
   grind
theorem Zst(k:Nat):∀(os:Os) (o:Nat),lk (delO k os) o=if o=k then none else lk os o:=by
 intro os
 induction os with
 |nil=>intro o;simp[delO,lk]
 |cons e r ih=>
  intro o
  obtain⟨k',y⟩:=e
  simp only[delO]
  by_cases h:k=k'
  ·subst h
   simp only[Yh,ih,lk];simp_all
  ·simp only[h,Y9,lk,ih]
   grind
theorem Zj7(os:Os):∀(U:List (Nat×Option AO)),lk (updL os U)=updO (lk os) U:=by
 intro U
 induction U with
 |nil=>rfl
 |cons e r ih=>
  obtain⟨k,x⟩:=e
  funext o
  cases x with
  |some x=>simp only[updL,Zss,updO,ih]
  |none=>simp only[updL,Zst,updO,ih]
theorem ZpE(g:Tm)(os:Nat→Option AO)(d:Option Nat)(v:AV):(FS.mk (lookG g) os).put d v=FS.mk (lookG (match d with|some d=>(d,v)::g|none=>g)) os:=by
 cases d with
 |none=>rfl
 |some d=>rfl
def toFS(g:Tm)(os:Os):FS:=⟨lookG g,lk os⟩
theorem Znj(g:Tm)(os:Os)(d:Option Nat)(v:AV)(U:List (Nat×Option AO)):
 (toFS g os).upd d v U=toFS (match d with|some d=>(d,v)::g|none=>g) (updL os U):=by
 unfold toFS FS.upd;rw[ZpE,Zj7]
def fO:Os→(Os→Prop)→Prop
 | [],K=>K []
 |(k,x)::r,K=>fO r fun r=>K ((k,x)::r)
theorem fO_eq:∀(os:Os) (K:Os→Prop),fO os K=K os
 | [],K=>rfl
 |(k,x)::r,K=>by simp only[fO];rw[fO_eq]
def fN(n:Nat)(K:Nat→Prop):Prop:=Nat.rec (motive:=fun _=>Prop) (K 0) (fun m _=>K (m+1)) n
theorem fN_eq(n:Nat)(K:Nat→Prop):fN n K=K n:=by cases n<;>rfl
def fSet(k:Nat)(x:AO):Os→(Os→Prop)→Prop
 | [],K=>K [(k,x)]
 |(k',y)::r,K=>if k=k' then K ((k,x)::r)else fSet k x r fun r=>K ((k',y)::r)
def fDel(k:Nat):Os→(Os→Prop)→Prop
 | [],K=>K []
 |(k',y)::r,K=>if k=k' then fDel k r K else fDel k r fun r=>K ((k',y)::r)
theorem Zp4(k:Nat)(x:AO):∀(os:Os) (K:Os→Prop),fSet k x os K=K (setO k x os)
 | [],K=>rfl
 |(k',y)::r,K=>by
  simp only[fSet,setO];split
  ·rfl
  ·rw[Zp4]
theorem Zm4(k:Nat):∀(os:Os) (K:Os→Prop),fDel k os K=K (delO k os)
 | [],K=>rfl
 |(k',y)::r,K=>by
  simp only[fDel,delO];split
  ·rw[Zm4]
  ·rw[Zm4]
def fUp(os:Os):List (Nat×Option AO)→(Os→Prop)→Prop
 | [],K=>fO os K
 |(k,some x)::r,K=>fUp os r fun os=>fN k fun k=>fSet k x os K
 |(k,none)::r,K=>fUp os r fun os=>fN k fun k=>fDel k os K
theorem Zp3(os:Os):∀(U:List (Nat×Option AO)) (K:Os→Prop),fUp os U K=K (updL os U)
 | [],K=>fO_eq _ _
 |(k,some x)::r,K=>by simp only[fUp,updL];rw[Zp3];rw[fN_eq,Zp4]
 |(k,none)::r,K=>by simp only[fUp,updL];rw[Zp3];rw[fN_eq,Zm4]
def fU(p:Bool)(rs:List (List AV))(K:AO→Prop):Prop:=
 Bool.rec (motive:=fun _=>Prop) (fR rs fun rs=>K (.rows false rs)) (K (.rows true rs)) p
theorem fU_eq(p:Bool)(rs:List (List AV))(K:AO→Prop):fU p rs K=K (.rows p rs):=by
 cases p
 ·simp only[fU];rw[fR_eq]
 ·rfl
def rowsR(ol:Nat→Option AO)(o:Nat):Option (List (List AV)):=
 match ol o with
 |some (.rows true rs)=>some rs
 |some (.rows false rs)=>some rs
 |some (.froz rs)=>some rs
 |_=>none
theorem Zga{ol:Nat→Option AO}{o:Nat}{rs:List (List AV)}(h:rowsR ol o=some rs):∃y,ol o=some y∧(y=.rows true rs∨y=.rows false rs∨y=.froz rs):=by
 unfold rowsR at h
 grind
end Go.Ab
