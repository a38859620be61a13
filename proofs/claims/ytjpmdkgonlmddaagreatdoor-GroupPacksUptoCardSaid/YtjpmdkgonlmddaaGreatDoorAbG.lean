import Derived.Test.YtjpmdkgonlmddaaGreatDoorAbF
import Derived.RangeFuncCalls
set_option linter.unusedVariables false
namespace Go.Ab
section
variable {RO:bL}{U:List (Nat×Option AO)}{id:Nat}{op:Op}{v:AV}
def Mk(op:Op):bL:=op.operands.toList.filterMap λ|.tmp t=>some t|_=>none
section
variable {P:Program}{G:eo}{ev eP:Operand→AV}{ol jk:Nat→Option AO}
theorem Fm{place:Nat→Option (Nat×Nat)}:∀(parts:List (Nat×Operand)) (cs:List AV),(∀x∈parts,eP x.2=ev x.2)→fZ eP place parts cs=fZ ev place parts cs:=by
 intro parts;induction parts with
 |nil=>intro cs _;rfl
 |cons p r ih=>
  intro cs h;obtain⟨i,x⟩:=p;have j:eP x=ev x:=h (i,x) (by simp)
  simp only[fZ,j];simp_all
theorem ZK(t:TypeId)(parts:Array (Nat×Operand)){x:Nat×Operand}(hx:x∈parts.toList):x.2∈(Op.build t parts).operands.toList:=by
 simp only[Op.operands];grind
theorem OP(h:∀x∈op.operands.toList,eP x=ev x):fb P eP op=fb P ev op:=by
 have one:∀x∈op.operands.toList,eP x=ev x:=h;cases op with
 |move x=>simp only[fb,one x (by simp[Op.operands])]
 |assign x=>simp only[fb,one x (by simp[Op.operands])]
 |fieldAddr s x i=>simp only[fb,one x (by simp[Op.operands])]
 |field s x i=>simp only[fb,one x (by simp[Op.operands])]
 |unOp op t x=>simp only[fb,one x (by simp[Op.operands])]
 |binOp op t x y t'=>simp only[fb,one x (by simp[Op.operands]),one y (by simp[Op.operands])]
 |extract t i=>simp only[fb,one t (by simp[Op.operands])]
 |build t parts=>
  simp only[fb,xF];have p:∀x∈parts.toList,eP x.2=ev x.2:=λ x j=>h x.2 (ZK t parts j);split
  ·rfl
  ·split
   ·split
    ·rw[Fm _ _ p]
    ·rfl
   ·split
    ·rw[Fm _ _ p]
    ·rfl
   ·rfl
 |makeFunc fn first cap=>
  cases fn with
  |func f=>
   simp only[fb];have h1:cap.toList.map eP=cap.toList.map ev:=WZ (λ x j=>h x (by simp only[Op.operands];simp_all))
   have h2:first.toList.map eP=first.toList.map ev:=WZ (λ x j=>h x (by simp only[Op.operands];simp_all))
   grind
  |_=>rfl
 |nilCheck x=>simp only[fb,one x (by simp[Op.operands])]
 |convert s d x=>simp only[fb,one x (by simp[Op.operands])]
 |call c=>
  obtain⟨callee,args,ts⟩:=c;cases callee with
  |builtin b=>
   have o:∀x∈args.toList,eP x=ev x:=λ x j=>h x (by simp only[Op.operands,Call.operands];simp_all)
   cases b with
   |len=>
    simp only[fb];grind
   |max=>
    simp only[fb];grind
   |min=>
    simp only[fb];grind
   |_=>rfl
  |_=>rfl
 |_=>rfl
theorem ZmM{α β:Type}{f g:α→Option β}:∀{l:List α},(∀x∈l,f x=g x)→kX f l=kX g l:=by
 intro l;induction l with
 |nil=>intro _;rfl
 |cons a r ih=>intro h;simp only[kX];simp_all
theorem Kd{V:bL}(h:∀o∈V,jk o=ol o):∀n,gi V jk n=gi V ol n:=by
 intro n;induction n with
 |zero=>rfl
 |succ n ih=>
  funext x;cases x with
  |bf o z=>
   simp only[gi];simp_all
  |fp o off len room=>
   simp only[gi];simp_all
  |ptr o r c=>
   simp only[gi];simp_all
  |agg cs=>simp only[gi,ih]
  |cx cs=>simp only[gi,ih]
  |fn f cs=>simp only[gi,ih]
  |_=>rfl
theorem Zm5{V:bL}(h:∀o∈V,jk o=ol o)(n:Nat):frozen V jk n=frozen V ol n:=by
 unfold frozen;exact ZmM (λ o ho=>by rw[h o ho,Kd h n])
theorem OW{o:Option Operand}{d n:Nat}(h:∀x,o=some x→eP x=ev x)(j:gg ev o d n):gg eP o d n:=by
 cases o with
 |none=>exact j
 |some x=>
  obtain⟨k,i,h1,p⟩:=j;exact⟨k,i,by simp_all,p⟩
theorem Cz{x:AV}{q:Bool×List (List AV)×bL}(i:dG ol x=some q)(h:∀o∈q.2.2,jk o=ol o):dG jk x=some q:=by
 cases x with
 |bf o z=>
  have key:jk o=ol o→dG jk (.bf o z)=some q:=by intro e;simp only[dG,e]at i⊢;exact i
  simp only[dG]at i;grind
 |fp o a b c=>
  have key:jk o=ol o→dG jk (.fp o a b c)=some q:=by intro e;simp only[dG,e]at i⊢;exact i
  simp only[dG]at i;grind
 |_=>exact i
theorem ey.local(h:ey P ev ol id op v U RO)
 (i:∀x∈op.operands.toList,eP x=ev x) (C:∀o,o∈RO∨o∈U.map (·.1)→jk o=ol o):ey P eP jk id op v U RO:=by
 have lu:∀{t x lo u mx},op=.slice t x lo u mx→(eP x=ev x)∧(∀d n,gg ev lo d n→gg eP lo d n)∧(∀d n,gg ev u d n→gg eP u d n)∧(∀y,u=some y→eP y=ev y)∧(∀y,mx=some y→eP y=ev y):=by
  intro t x lo u mx e;subst e;have j:=i x (by simp[Op.operands])
  have H:∀y,lo=some y→eP y=ev y:=λ y e=>by subst e;exact i y (by simp[Op.operands])
  have E:∀y,u=some y→eP y=ev y:=λ y e=>by subst e;exact i y (by simp[Op.operands])
  have F:∀y,mx=some y→eP y=ev y:=λ y e=>by subst e;exact i y (by simp[Op.operands])
  exact⟨j,λ d n=>OW H,λ d n=>OW E,E,F⟩
 cases h with
 |oC t x lo u l a b j ht ha hb jG gL=>
  obtain⟨e1,A,B,_⟩:=lu rfl;exact .oC t x lo u l a b (by simp_all) ht (A _ _ ha) (B _ _ hb) jG gL
 |tL t x lo u xs a b sz j ht hl ha hb jG gL=>
  obtain⟨e1,A,B,_⟩:=lu rfl;exact .tL t x lo u xs a b sz (by simp_all) ht hl (A _ _ ha) (B _ _ hb) jG gL
 |mi t x lo hh m k k' q sz hs j ht ha h1 h2=>
  obtain⟨e1,A,B,e4,e5⟩:=lu rfl;exact .mi t x lo hh m k k' q sz (by simp_all) (by rw[e1];exact Cz j (λ o ho=>C o (.inl ho))) ht (A _ _ ha) (by simp_all) (by simp_all)
 |oD t x lo u o z a b sz y rs j ho hy hr ht ha hb jG gL=>
  obtain⟨e1,A,B,_⟩:=lu rfl;exact .oD t x lo u o z a b sz y rs (by simp_all) (by simp_all) hy hr ht (A _ _ ha) (B _ _ hb) jG gL
 |uE t x u o z b rs j ho hr ht hb gL=>
  obtain⟨e1,A,B,_⟩:=lu rfl;exact .uE t x u o z b rs (by simp_all) (by simp_all) hr ht (B _ _ hb) gL
 |oE t x lo u o off len room a b sz y rs j ho hy hr ht ha hb jG gL ux=>
  obtain⟨e1,A,B,_⟩:=lu rfl;exact .oE t x lo u o off len room a b sz y rs (by simp_all) (by simp_all) hy hr ht (A _ _ ha) (B _ _ hb) jG gL ux
 |tV t l c k k' n m z sz hl hc h0 h1 h2 ht hz=>
  exact .tV t l c k k' n m z sz (by rw[i l (by simp[Op.operands])];exact hl) (by rw[i c (by simp[Op.operands])];exact hc) h0 h1 h2 ht hz
 |pj t len parts z cs sz ht hz cS jx iG jb hf=>
  refine .pj t len parts z cs sz ht hz cS jx iG jb ?_;rw[Fm _ _ (λ x j=>i x.2 (by simp only[Op.operands];grind))]
  exact hf
 |sf t tx s x q sz hs j ht uh hr cS=>
  refine .sf t tx s x q sz (by rw[i s (by simp[Op.operands,Call.operands])];exact hs) ?_ ht uh hr cS
  rw[i x (by simp[Op.operands,Call.operands])]
  exact Cz j (λ o ho=>C o (.inl ho))
 |se t tx s x q sz o z p rs hs hz ho j ht uh hr pO cS=>
  refine .se t tx s x q sz o z p rs (by rw[i s (by simp[Op.operands,Call.operands])];exact hs) hz (by simp_all) ?_ ht uh hr pO cS
  rw[i x (by simp[Op.operands,Call.operands])]
  exact Cz j (λ o ho=>C o (.inl ho))
 |cv s d x l j ht hl=>exact .cv s d x l (by rw[i x (by simp[Op.operands])];exact j) ht hl
 |toStr s d x l q hs j hl ht=>
  have e1:=i x (by simp[Op.operands])
  exact .toStr s d x l q (by simp_all) (by rw[e1];exact Cz j (λ o ho=>C o (.inl ho))) hl ht
 |mkMap t h=>exact .mkMap t h
 |mn t x k n h j=>exact .mn t x k n h (by rw[i x (by simp[Op.operands])];exact j)
 |iQ _ t kt m k x jh o pf es r hm ho ht hk hr cS vx La=>
  have e1:eP m=ev m:=i m (by rcases jh with rfl|rfl<;>simp[Op.operands])
  have A:eP k=ev k:=i k (by rcases jh with rfl|rfl<;>simp[Op.operands])
  have B:eP x=ev x:=i x (by rcases jh with rfl|rfl<;>simp[Op.operands])
  have:=ey.iQ (P:=P) (ev:=eP) (ol:=jk) (id:=id) op t kt m k x jh o pf es r (by simp_all) (by simp_all) ht (by simp_all) (by simp_all) cS vx (by simp_all)
  simp_all
 |look t kt m k ok o pf es r v hm ho ht hk hr hv=>
  have e1:eP m=ev m:=i m (by simp[Op.operands])
  have A:eP k=ev k:=i k (by simp[Op.operands])
  exact .look t kt m k ok o pf es r v (by simp_all) (by simp_all) ht (by simp_all) (by simp_all) hv
 |oN t kt vt m k ok v hm ht hk lj hz=>
  have e1:eP m=ev m:=i m (by simp[Op.operands])
  have A:eP k=ev k:=i k (by simp[Op.operands])
  exact .oN t kt vt m k ok v (by simp_all) ht (by simp_all) lj hz
theorem eO.local(h:eO P ev ol id op v U RO)
 (j:∀x∈op.operands.toList,eP x=ev x) (A:∀o,o∈RO∨o∈U.map (·.1)→jk o=ol o):eO P eP jk id op v U RO:=by
 cases h with
 |look t kt m k ok o z fs i e hm ho ht hk hr he=>
  have e1:eP m=ev m:=j m (by simp[Op.operands])
  have y:eP k=ev k:=j k (by simp[Op.operands])
  exact .look t kt m k ok o z fs i e (by simp_all) (by simp_all) ht (by simp_all) (by simp_all) he
 |tO t kt m k o z fs h r hm ho ht hk hr hz=>
  have e1:eP m=ev m:=j m (by simp[Op.operands])
  have y:eP k=ev k:=j k (by simp[Op.operands])
  exact .tO t kt m k o z fs h r (by simp_all) (by simp_all) ht (by simp_all) (by simp_all) hz
 |ic t kt m k ok o z fs h v hm ho ht hk hr hv=>
  have e1:eP m=ev m:=j m (by simp[Op.operands])
  have y:eP k=ev k:=j k (by simp[Op.operands])
  exact .ic t kt m k ok o z fs h v (by simp_all) (by simp_all) ht (by simp_all) (by simp_all) hv
 |fq _ t kt m k x jh o z q fs h r rs hm ho ht hk hr hh cS u hq hl hz iF=>
  have e1:eP m=ev m:=j m (by rcases jh with rfl|rfl<;>simp[Op.operands])
  have y:eP k=ev k:=j k (by rcases jh with rfl|rfl<;>simp[Op.operands])
  have e3:eP x=ev x:=j x (by rcases jh with rfl|rfl<;>simp[Op.operands])
  have:=eO.fq (P:=P) (ev:=eP) (ol:=jk) (id:=id) op t kt m k x jh o z q fs h r rs (by simp_all) (by simp_all) ht (by simp_all) (by simp_all) hh cS (by simp_all) (by simp_all) hl hz iF
  simp_all
 |del t tk kt m k o z fs h r hm ho ht hk hr hh=>
  have e1:eP m=ev m:=j m (by simp[Op.operands,Call.operands])
  have y:eP k=ev k:=j k (by simp[Op.operands,Call.operands])
  exact .del t tk kt m k o z fs h r (by simp_all) (by simp_all) ht (by simp_all) (by simp_all) hh
 |copy t ts d s o off len p rs q sz ho pT hs ht hr pO=>
  have e1:eP d=ev d:=j d (by simp[Op.operands,Call.operands])
  have y:eP s=ev s:=j s (by simp[Op.operands,Call.operands])
  have B:jk o=some (.rows p rs):=by rw[A o (by simp)];exact ho
  refine .copy t ts d s o off len p rs q sz B (by simp_all) ?_ ht hr pO
  rw[y];exact Cz hs (λ o ho=>A o (.inl ho))
 |sa t tk kt m k o p es r hm ho ht hk hr=>
  have e1:eP m=ev m:=j m (by simp[Op.operands,Call.operands])
  have y:eP k=ev k:=j k (by simp[Op.operands,Call.operands])
  exact .sa t tk kt m k o p es r (by simp_all) (by simp_all) ht (by simp_all) (by simp_all)
 |len x ts args t o z fs h ha ui ht u ho=>
  exact .len x ts args t o z fs h ha ui ht (by rw[j x (by simp only[Op.operands,Call.operands];grind)];exact u) (by simp_all)
 |oK t t' e x o z p rs u ho ht=>exact .oK t t' e x o z p rs (by rw[j x (by simp[Op.operands])];exact u) (by simp_all) ht
 |BQ t x o off len room p rs z sz h ho ht hz hr ux=>
  exact .BQ t x o off len room p rs z sz (by rw[j x (by simp[Op.operands,Call.operands])];exact h) (by simp_all) ht hz hr ux
 |mk t z h=>exact .mk t z h
 |tW t len parts z cs ht hz h1 h2 h3 h4 h5 h6 hf=>
  refine .tW t len parts z cs ht hz h1 h2 h3 h4 h5 h6 ?_;rw[Fm _ _ (λ x u=>j x.2 (by simp only[Op.operands];grind))];exact hf
 |mE t cs k z hz hk=>exact .mE t cs k z hz hk
 |uG t x cs k z hc hk=>exact .uG t x cs k z (by rw[j x (by simp[Op.operands])];exact hc) hk
 |mD t parts cs k z hb hk=>
  have e:fb P eP (.build t parts)=fb P ev (.build t parts):=OP j;simp only[fb]at e;exact .mD t parts cs k z (by simp_all) hk
 |Ep s d x o rs u ho ht=>exact .Ep s d x o rs (by rw[j x (by simp[Op.operands])];exact u) (by simp_all) ht
theorem GStep.local(h:GStep P ev ol id op v U RO)
 (j:∀x∈op.operands.toList,eP x=ev x) (u:∀o,o∈RO∨o∈U.map (·.1)→jk o=ol o):GStep P eP jk id op v U RO:=by
 cases h with
 |look t kt m k ok o es i e hm ho ht hk hr he hW=>
  have e1:eP m=ev m:=j m (by simp[Op.operands])
  have p:eP k=ev k:=j k (by simp[Op.operands])
  exact .look t kt m k ok o es i e (by simp_all) (by simp_all) ht (by simp_all) (by simp_all) he hW
 |same t kt m k ok o q es i hm ho ht hk hr=>
  have e1:eP m=ev m:=j m (by simp[Op.operands])
  have p:eP k=ev k:=j k (by simp[Op.operands])
  exact .same t kt m k ok o q es i (by simp_all) (by simp_all) ht (by simp_all) (by simp_all)
 |ic t kt m k ok o es h v hm ho ht hk hr hv=>
  have e1:eP m=ev m:=j m (by simp[Op.operands])
  have p:eP k=ev k:=j k (by simp[Op.operands])
  exact .ic t kt m k ok o es h v (by simp_all) (by simp_all) ht (by simp_all) (by simp_all) hv
 |put _ t kt m k x jh o q es hm ho ht hk hr cS hx g0=>
  have e1:eP m=ev m:=j m (by rcases jh with rfl|rfl<;>simp[Op.operands])
  have p:eP k=ev k:=j k (by rcases jh with rfl|rfl<;>simp[Op.operands])
  have e3:eP x=ev x:=j x (by rcases jh with rfl|rfl<;>simp[Op.operands])
  have:=GStep.put (P:=P) (ev:=eP) (ol:=jk) (id:=id) op t kt m k x jh o q es (by simp_all) (by simp_all) ht (by simp_all) (by simp_all) cS (by simp_all) g0
  simp_all
 |mk t h=>exact .mk t h
theorem dp.local(h:dp P G ev ol id op v U RO)
 (j:∀x∈op.operands.toList,eP x=ev x) (A:∀o,o∈RO∨o∈U.map (·.1)→jk o=ol o):dp P G eP jk id op v U RO:=by
 cases h with
 |more op v U RO h=>exact .more op v U RO (h.local j A)
 |files op v U RO h=>exact .files op v U RO (h.local j A)
 |jR op v U RO h=>exact .jR op v U RO (h.local j A)
 |pure op v h=>exact .pure op v (by rw[OP j];exact h)
 |nil z=>exact .nil z
 |pick c a b t h=>
  have B:=j c (by simp[Op.operands])
  have:=dp.pick (P:=P) (G:=G) (ev:=eP) (ol:=jk) (id:=id) c a b t (by simp_all)
  rw[j a (by simp[Op.operands]),j b (by simp[Op.operands])]at this
  exact this
 |alloc t cs h=>exact .alloc t cs h
 |box t x cs h=>exact .box t x cs (by rw[j x (by simp[Op.operands])];exact h)
 |load t a o i c p rs row v h ho hr hl=>exact .load t a o i c p rs row v (by rw[j a (by simp[Op.operands])];exact h) (by simp_all) hr hl
 |oP t a o i c rs row v h ho hr hl=>exact .oP t a o i c rs row v (by rw[j a (by simp[Op.operands])];exact h) (by simp_all) hr hl
 |oO t a row c v h hl=>exact .oO t a row c v (by rw[j a (by simp[Op.operands])];exact h) hl
 |store t a x o i c p rs row cs b n h ho hr B hk hn hb=>
  exact .store t a x o i c p rs row cs b n (by rw[j a (by simp[Op.operands])];exact h) (by simp_all) hr (by rw[j x (by simp[Op.operands])];exact B) hk hn hb
 |mg t a x o i c p rs row b q z xs h ho hr u hq iF hk hb=>
  exact .mg t a x o i c p rs row b q z xs (by rw[j a (by simp[Op.operands])];exact h) (by simp_all) hr (by rw[j x (by simp[Op.operands])];exact u) (by simp_all) iF hk hb
 |mh t a x o i c p rs row b z h ho hr u hk hb=>
  exact .mh t a x o i c p rs row b z (by rw[j a (by simp[Op.operands])];exact h) (by simp_all) hr (by rw[j x (by simp[Op.operands])];exact u) hk hb
 |oT t e x ix xs k n row b h hi h0 hr ht hk=>exact .oT t e x ix xs k n row b (by rw[j x (by simp[Op.operands])];exact h) (by rw[j ix (by simp[Op.operands])];exact hi) h0 hr ht hk
 |mr t e x ix o z k n y rs row b h hi h0 ho hy hr ht hk=>
  exact .mr t e x ix o z k n y rs row b (by rw[j x (by simp[Op.operands])];exact h) (by rw[j ix (by simp[Op.operands])];exact hi) h0 (by simp_all) hy hr ht hk
 |mu t e x ix o off len room k n y rs row b h hi h0 h1 ho hy hr ht hk=>
  exact .mu t e x ix o off len room k n y rs row b (by rw[j x (by simp[Op.operands])];exact h) (by rw[j ix (by simp[Op.operands])];exact hi) h0 h1 (by simp_all) hy hr ht hk
 |mv t e x ix o r c len sz k n b h hi h0 h1 ht hk=>exact .mv t e x ix o r c len sz k n b (by rw[j x (by simp[Op.operands])];exact h) (by rw[j ix (by simp[Op.operands])];exact hi) h0 h1 ht hk
 |kc t e x ix row c len sz k n b h hi h0 h1 ht hk=>exact .kc t e x ix row c len sz k n b (by rw[j x (by simp[Op.operands])];exact h) (by rw[j ix (by simp[Op.operands])];exact hi) h0 h1 ht hk
 |oA t x ix l k n c h hi h0 hr ht=>exact .oA t x ix l k n c (by rw[j x (by simp[Op.operands])];exact h) (by rw[j ix (by simp[Op.operands])];exact hi) h0 hr ht
 |pn t e x ix cs len sz k n b v h hi h0 h1 ht hk hl=>exact .pn t e x ix cs len sz k n b v (by rw[j x (by simp[Op.operands])];exact h) (by rw[j ix (by simp[Op.operands])];exact hi) h0 h1 ht hk hl
 |quo t t' x y k a b u hy h0=>exact .quo t t' x y k a b (by rw[j x (by simp[Op.operands])];exact u) (by rw[j y (by simp[Op.operands])];exact hy) h0
 |rem t t' x y k a b u hy h0=>exact .rem t t' x y k a b (by rw[j x (by simp[Op.operands])];exact u) (by rw[j y (by simp[Op.operands])];exact hy) h0
 |shl t t' x y k k' a b u hy h0=>exact .shl t t' x y k k' a b (by rw[j x (by simp[Op.operands])];exact u) (by rw[j y (by simp[Op.operands])];exact hy) h0
 |shr t t' x y k k' a b u hy h0=>exact .shr t t' x y k k' a b (by rw[j x (by simp[Op.operands])];exact u) (by rw[j y (by simp[Op.operands])];exact hy) h0
 |cat t t' x y a b u hy h=>exact .cat t t' x y a b (by rw[j x (by simp[Op.operands])];exact u) (by rw[j y (by simp[Op.operands])];exact hy) h
 |pc t t' x y cs ds r u hy hp hg iE B hd h=>
  exact .pc t t' x y cs ds r (by rw[j x (by simp[Op.operands])];exact u) (by rw[j y (by simp[Op.operands])];exact hy) hp hg iE B hd h
 |oM t t' x y cs ds r u hy hp hg iE B hd h=>
  exact .oM t t' x y cs ds r (by rw[j x (by simp[Op.operands])];exact u) (by rw[j y (by simp[Op.operands])];exact hy) hp hg iE B hd h
 |tT t t' e x xs u ht=>exact .tT t t' e x xs (by rw[j x (by simp[Op.operands])];exact u) ht
 |kF x ts args t e o z y rs ha ui ht h ho hy=>
  exact .kF x ts args t e o z y rs ha ui ht (by rw[j x (by simp only[Op.operands,Call.operands];grind)];exact h) (by simp_all) hy
 |call fn args ts f cap V n bY rv h hv hf oc=>
  have C:args.toList.map eP=args.toList.map ev:=WZ (λ x u=>j x (by simp only[Op.operands,Call.operands];simp_all))
  refine .call fn args ts f cap _ n bY _ (by rw[j fn (by simp[Op.operands,Call.operands])];exact h) ?_ hf oc
  rw[C,Kd (λ o ho=>A o (.inl ho))];exact hv
 |nw fn args ts f cap V n bY rv cr U h hv hf hU=>
  have C:args.toList.map eP=args.toList.map ev:=WZ (λ x u=>j x (by simp only[Op.operands,Call.operands];simp_all))
  refine .nw fn args ts f cap _ n bY rv cr U (by rw[j fn (by simp[Op.operands,Call.operands])];exact h) ?_ hf ?_
  ·rw[C,Kd (λ o ho=>A o (.inl ho))];exact hv
  ·rw[Zm5 (λ o ho=>A o (.inl ho))];exact hU
 |lX fn args ts f cap _ cQ bY rv cr h hh hf=>
  have C:args.toList.map eP=args.toList.map ev:=WZ (λ x u=>j x (by simp only[Op.operands,Call.operands];simp_all))
  refine .lX fn args ts f cap _ cQ bY rv cr (by rw[j fn (by simp[Op.operands,Call.operands])];exact h) ?_ hf
  refine⟨hh.ok,hh.keys,?_,by rw[C];exact hh.args⟩
  have e:RO.map jk=RO.map ol:=WZ (λ o ho=>A o (.inl ho));rw[e];exact hh.GI
inductive iz(P:Program)(G:eo)(ev:Operand→AV)(ol:Nat→Option AO)(id:Nat)(op:Op):AV→List (Nat×Option AO)→bL→Prop
 |of {v:AV} {U:List (Nat×Option AO)} {RO:bL} (h:dp P G ev ol id op v U RO):iz P G ev ol id op v U RO
 |same {v:AV} {U:List (Nat×Option AO)} {RO Qo:bL} (h:dp P G ev ol id op v U RO) (hs:bw ol U=ol) (hr:∀o,o∈RO∨o∈U.map (·.1)→o∈Qo):iz P G ev ol id op v [] Qo
theorem UH{i os2:Nat→Option AO}{o:Nat}:∀{V:List (Nat×Option AO)},o∈V.map (·.1)→bw i V o=bw os2 V o:=by
 intro V;induction V with
 |nil=>simp
 |cons e r ih=>
  intro h;simp only[bw];grind
theorem Oa{os:Nat→Option AO}:∀{U:List (Nat×Option AO)} {o:Nat},o∉U.map (·.1)→bw os U o=os o:=by
 intro U;induction U with
 |nil=>intro o _;rfl
 |cons e r ih=>
  intro o h;simp only[Yy,Yr,not_or]at h;simp only[bw,h.1,Ym];grind
theorem ZpV{ol jk:Nat→Option AO}(i:bw ol U=ol)(j:∀o,o∈U.map (·.1)→jk o=ol o):bw jk U=jk:=by
 funext o;by_cases ho:o∈U.map (·.1)
 ·rw[UH (os2:=ol) ho,i,j o ho]
 ·rw[Oa ho]
theorem iz.local(h:iz P G ev ol id op v U RO)
 (j:∀x∈op.operands.toList,eP x=ev x) (i:∀o,o∈RO∨o∈U.map (·.1)→jk o=ol o):iz P G eP jk id op v U RO:=by
 cases h with
 |of h=>exact .of (h.local j i)
 |same h hs hr=>exact .same (h.local j (λ o ho=>i o (.inl (hr o ho)))) (ZpV hs (λ o ho=>i o (.inl (hr o (.inr ho))))) hr
theorem ZpT{os:Nat→Option AO}{A B:List (Nat×Option AO)}(h:∀e∈A,os e.1=e.2)(i:∀e∈B,e.1∈A.map (·.1)):bw os (A++B)=os:=by
 funext o;by_cases ho:o∈A.map (·.1)
 ·clear i;induction A with
  |nil=>simp at ho
  |cons e r ih=>
   simp only[YC,bw];grind
 ·refine Oa ?_;grind
theorem ZpG{V:bL}{ol:Nat→Option AO}{cQ:List (Nat×AO)}(u:cQ.map (·.1)=List.range V.length)(h3:cQ.map (λ e=>some (dq (bk V id) e.2))=V.map ol):
 bw ol (hZ V id cQ)=ol:=by
 have hl:cQ.length=V.length:=by simpa using YU List.length u
 have p:∀(j:Nat) (hj:j<cQ.length),cQ[j].1=j:=λ j hj=>by
  have:(cQ.map (·.1))[j]? =some cQ[j].1:=by rw[YD,Y3 hj];rfl
  grind
 refine ZpT (λ e i=>?_) (λ e i=>?_)
 ·obtain⟨x,q,rfl⟩:=W0.1 i;obtain⟨j,hj,rfl⟩:=Wc q;have e1:bk V id cQ[j].1=V[j]'(by omega):=by rw[p j hj];simp[bk,show j<V.length by omega]
  have e2:(V.map ol)[j]? =some (ol (V[j]'(by omega))):=by rw[YD,Y3 (by omega)];rfl
  grind
 ·obtain⟨o,ho,rfl⟩:=W0.1 i;obtain⟨j,hj,rfl⟩:=Wc ho;rw[Wa];refine W0.2 ⟨cQ[j]'(by omega),Wz _,?_⟩
  show bk V id _=V[j];rw[p j (by omega)];simp[bk,hj]
end
end
section
variable {f:FS}{i:Nat}
def gR(ops:Array Oper)(g:Nat→AV)(o:Oper):Option Bool:=
 match o.guard with
 |none=>some true
 |some (j,want)=>match (ops[j]?).bind (·.dst)with
  |some d=>match g d with
   |.bool b=>some (b==want)
   |.cx _=>some false
   |_=>none
  |none=>none
def xQ(ops:Array Oper)(o:Oper):bL:=
 o.dst.toList++(Mk o.op++(match o.guard with|none=>[]|some (j,_)=>((ops[j]?).bind (·.dst)).toList))
abbrev Log:=Nat→bL×bL
inductive iW(P:Program)(G:eo)(N:Sl)(ops:Array Oper)(nb:Nat)(L:Log)(f:FS)(i:Nat):FS→Prop
 |run (o:Oper) (v:AV) (U:List (Nat×Option AO)) (RO:bL) (ho:ops[i]? =some o) (hw:gR ops f.g o=some true)
  (h:iz P G (ig G f.g) f.os (nb+i*W) o.op v U RO) (hd:∀d,o.dst=some d→N.lo≤d∧d<N.n) (hL:L i=(U.map (·.1),RO)):iW P G N ops nb L f i (f.fq o.dst v U)
 |skip (o:Oper) (ho:ops[i]? =some o) (hw:gR ops f.g o=some false) (hd:∀d,o.dst=some d→N.lo≤d∧d<N.n) (hL:L i=([],[])):iW P G N ops nb L f i (f.fq o.dst (.cx []) [])
inductive fa(P:Program)(G:eo)(N:Sl)(ops:Array Oper)(nb:Nat)(L:Log):bL→FS→FS→Prop
 |nil (f:FS):fa P G N ops nb L [] f f
 |cons (i:Nat) (l:bL) (f f1 f2:FS) (h:iW P G N ops nb L f i f1) (hr:fa P G N ops nb L l f1 f2):fa P G N ops nb L (i::l) f f2
def pW(a b:bL):Bool:=a.all λ x=>!b.contains x
def Eu(ops:Array Oper)(L:Log)(i j:Nat):Bool:=
 match ops[i]?,ops[j]? with
 |some a,some b=>
  pW a.dst.toList (xQ ops b)&&pW b.dst.toList (xQ ops a)&&
  pW (L i).1 (L j).1&&pW (L i).1 (L j).2&&pW (L j).1 (L i).2
 |_,_=>false
theorem wg{a b:bL}(h:pW a b=true){x:Nat}(i:x∈a):x∉b:=by
 have:=YW.1 h x i;simp_all
theorem xR{os:Nat→Option AO}:∀{U:List (Nat×Option AO)} {o:Nat},o∉U.map (·.1)→bw os U o=os o:=by
 intro U;induction U with
 |nil=>intro o _;rfl
 |cons e r ih=>
  intro o h;simp only[Yy,Yr,not_or]at h;simp only[bw,h.1,Ym];grind
theorem ZpW{os:Nat→Option AO}{U U':List (Nat×Option AO)}(h:∀x,x∈U.map (·.1)→x∉U'.map (·.1)):bw (bw os U) U'=bw (bw os U') U:=by
 funext o;by_cases h1:o∈U'.map (·.1)
 ·have j:o∉U.map (·.1):=λ q=>h o q h1;rw[xR j (os:=bw os U')]
  have:∀(i os2:Nat→Option AO) (V:List (Nat×Option AO)),o∈V.map (·.1)→bw i V o=bw os2 V o:=by
   intro i os2 V;induction V with
   |nil=>simp
   |cons e r ih=>
    intro h;simp only[bw];grind
  grind
 ·rw[xR h1];by_cases j:o∈U.map (·.1)
  ·have:∀(i os2:Nat→Option AO) (V:List (Nat×Option AO)),o∈V.map (·.1)→bw i V o=bw os2 V o:=by
    intro i os2 V;induction V with
    |nil=>simp
    |cons e r ih=>
     intro h;simp only[bw];grind
   grind
  ·rw[xR j,xR j,xR h1]
theorem FS.ra{d i:Option Nat}{v v':AV}{U U':List (Nat×Option AO)}(hd:∀x∈d.toList,x∉i.toList)
 (p:∀x,x∈U.map (·.1)→x∉U'.map (·.1)):(f.fq d v U).fq i v' U'=(f.fq i v' U').fq d v U:=by
 have e1:∀(f:FS) d v U,(f.fq d v U).os=bw f.os U:=λ _ _ _ _=>rfl;have j:∀(f:FS) d v U,(f.fq d v U).g=(f.put d v).g:=λ _ _ _ _=>rfl
 have o:∀(f:FS) d v,(f.put d v).g=match d with|some k=>λ t=>if t=k then v else f.g t|none=>f.g:=by intro f d v;cases d<;>rfl
 have hg:((f.fq d v U).fq i v' U').g=((f.fq i v' U').fq d v U).g:=by
  rw[j,j,o,o];cases d with
  |none=>simp_all
  |some k=>cases i with
   |none=>rfl
   |some k'=>
    have q:k≠k':=by intro e;exact hd k (by simp) (by simp[e])
    grind
 have ho:((f.fq d v U).fq i v' U').os=((f.fq i v' U').fq d v U).os:=by
  rw[e1,e1,e1,e1];exact ZpW p
 cases hA:(f.fq d v U).fq i v' U' with
 |mk g os=>cases hB:(f.fq i v' U').fq d v U with
  |mk g' cr=>simp_all
section
variable {P:Program}{G:eo}{N:Sl}{ops:Array Oper}{nb:Nat}{L:Log}
theorem vm(f:FS)(d:Option Nat)(v:AV)(U:List (Nat×Option AO))(t:Nat)(h:t∉d.toList):(f.fq d v U).g t=f.g t:=by
 cases d with
 |none=>rfl
 |some k=>
  show(if t=k then v else f.g t)=f.g t;simp_all
theorem Mb(f:FS)(d:Option Nat)(v:AV)(U:List (Nat×Option AO)):(f.fq d v U).os=bw f.os U:=rfl
theorem iW.move{f1:FS}(h:iW P G N ops nb L f i f1):∃(o:Oper) (v:AV) (U:List (Nat×Option AO)),ops[i]? =some o∧f1=f.fq o.dst v U∧
 U.map (·.1)=(L i).1∧
 ∀p:FS,(∀t,t∈xQ ops o→p.g t=f.g t)→(∀k,k∈(L i).1∨k∈(L i).2→p.os k=f.os k)→iW P G N ops nb L p i (p.fq o.dst v U):=by
 have u:∀(o:Oper) (p:FS),(∀t,t∈xQ ops o→p.g t=f.g t)→gR ops p.g o=gR ops f.g o:=by
  intro o p q;unfold gR;cases hg:o.guard with
  |none=>rfl
  |some jw=>
   obtain⟨j,want⟩:=jw;simp only;cases hb:(ops[j]?).bind (·.dst)with
   |none=>rfl
   |some d=>
    simp only;rw[q d (by unfold xQ;simp_all)]
 cases h with
 |run o v U RO ho hw hA hd hL=>
  refine⟨o,v,U,ho,rfl,by rw[hL],λ p q z=>?_⟩
  refine .run o v U RO ho (by simp_all) (hA.local (λ x hx=>?_) (λ k y=>?_)) hd hL
  ·cases x with
   |tmp t=>
    show p.g t=f.g t;refine q t ?_;unfold xQ Mk;grind
   |_=>rfl
  grind
 |skip o ho hw hd hL=>
  refine⟨o,.cx [],[],ho,rfl,by grind,λ p q z=>?_⟩
  exact .skip o ho (by simp_all) hd hL
theorem iW.swap{f1 f2:FS}{j:Nat}(h1:iW P G N ops nb L f i f1)(M:iW P G N ops nb L f1 j f2)(q:Eu ops L i j=true):
 ∃C,iW P G N ops nb L f j C∧iW P G N ops nb L C i f2:=by
 obtain⟨o,v,U,ho,rfl,J,A⟩:=h1.move;obtain⟨o',v',U',H,rfl,B,u⟩:=M.move;unfold Eu at q;rw[ho,H]at q;simp only[Yi]at q;obtain⟨⟨⟨⟨k1,k2⟩,k3⟩,k4⟩,k5⟩:=q;refine⟨f.fq o'.dst v' U',u f (λ t F=>?_) (λ k p=>?_),?_⟩
 ·rw[vm];intro y;exact wg k1 y F
 ·rw[Mb,xR];rw[J];intro y;rcases p with p|p
  ·exact wg k3 y p
  ·exact wg k4 y p
 ·have:=A (f.fq o'.dst v' U') (λ t F=>?_) (λ k p=>?_)
  ·rw[FS.ra]at this
   ·exact this
   ·intro x E z;exact wg k2 E (by unfold xQ;simp_all)
   ·intro x E z;rw[B]at E;rw[J]at z;exact wg k3 z E
  ·rw[vm];intro y;exact wg k2 y F
  ·rw[Mb,xR];rw[B];intro y;rcases p with p|p
   ·exact wg k3 p y
   ·exact wg k5 y p
theorem fa.front:∀{a:bL} {b:bL} {f f2:FS},fa P G N ops nb L (a++i::b) f f2→(∀j∈a,Eu ops L j i=true)→
 fa P G N ops nb L (i::(a++b)) f f2:=by
 intro a;induction a with
 |nil=>simp
 |cons j r ih=>
  intro b f f2 h o;cases h with
  |cons _ _ _ f1 _ hj hr=>
   have:=ih hr (λ k q=>o k (by simp[q]))
   cases this with
   |cons _ _ _ f3 _ hi pO=>
    obtain⟨p,h1,u⟩:=hj.swap hi (o j (by simp))
    exact .cons i _ f p f2 h1 (.cons j _ p f3 f2 u pO)
def B0(i:bL)(o:Oper):Nat:=
 o.after.toList.foldl (λ s e=>if Region.binds .any e then s|||(2^e.on|||i.getD e.on 0)else s) 0
def jt:List Oper→bL→bL
 | [],acc=>acc
 |o::r,acc=>jt r (acc++[B0 acc o])
def Cj(ops:Array Oper)(L:Log):Bool:=
 let m:=jt ops.toList []
 (ops.toList.zipIdx.all λ(o,i)=>o.after.toList.all λ e=>!Region.binds .any e||decide (e.on<i))&&
 (List.range ops.size).all λ i=>(List.range i).all λ j=>(m.getD i 0).testBit j||Eu ops L j i
theorem O7{i:bL}{j:Nat}:∀(l:List Edge) (s:Nat),(l.foldl (λ s e=>if Region.binds .any e then s|||(2^e.on|||i.getD e.on 0)else s) s).testBit j=true→
 s.testBit j=true∨∃e∈l,Region.binds .any e=true∧(e.on=j∨(i.getD e.on 0).testBit j=true):=by
 intro l;induction l with
 |nil=>simp
 |cons e r ih=>
  intro s h;simp only[Vw]at h;grind
theorem Of:∀(l:List Oper) (acc:bL) (i:Nat),(∀k<acc.length,(jt l acc)[k]? =acc[k]?)∧
 (∀o,l[i]? =some o→∃j,(jt l acc).getD (acc.length+i) 0=B0 j o∧∀k,k<acc.length+i→j[k]? =(jt l acc)[k]?):=by
 intro l;induction l with
 |nil=>intro acc i;exact⟨λ k _=>rfl,λ o h=>by simp at h⟩
 |cons o r ih=>
  intro acc i;simp only[jt];have h1:=(ih (acc++[B0 acc o]) 0).1;have p:∀k<acc.length,(jt r (acc++[B0 acc o]))[k]? =acc[k]? :=by
   intro k q;rw[h1 k (by grind),Yt q]
  refine⟨p,λ o' u=>?_⟩;cases i with
  |zero=>
   grind
  |succ i=>
   obtain⟨j,x,q⟩:=(ih (acc++[B0 acc o]) i).2 o' (by simp_all)
   simp only[Y8,W9]at x q;grind
theorem Zpb{listed:Nat→Bool}(F:∀(i:Nat) o,ops[i]? =some o→listed i=true→∀e∈o.after.toList,Region.binds .any e=true→listed e.on=true)
 (C:∀(i:Nat) o,ops[i]? =some o→∀e∈o.after.toList,Region.binds .any e=true→e.on<i):
 ∀(n i:Nat) o,i≤n→ops[i]? =some o→(∀e∈o.after.toList,Region.binds .any e=true→listed e.on=true)→
  ∀j,((jt ops.toList []).getD i 0).testBit j=true→listed j=true:=by
 intro n;induction n with
 |zero=>
  intro i o J ho H j hj;obtain⟨p,y,z⟩:=(Of ops.toList [] i).2 o (by simp_all)
  simp only[Yx,Wf]at y z;rw[y]at hj;rcases O7 _ _ hj with h|⟨e,B,E,h⟩
  all_goals grind
 |succ n ih=>
  intro i o J ho H j hj;obtain⟨p,y,z⟩:=(Of ops.toList [] i).2 o (by simp_all)
  simp only[Yx,Wf]at y z;rw[y]at hj;rcases O7 _ _ hj with h|⟨e,B,E,h⟩
  ·simp at h
  ·have x:=H e B E;rcases h with h|h
   ·simp_all
   ·have A:=C i o ho e B E;have:(jt ops.toList []).getD e.on 0=p.getD e.on 0:=by
     rw[Wt,Wt,z e.on A]
    rw[←this]at h;have u:e.on<ops.size:=by
     have:i<ops.size:=by
      rcases Wo i ops.size with q|q
      ·exact q
      ·simp_all
     omega
    exact ih e.on ops[e.on] (by omega) (W6 u) (F e.on _ (W6 u) x) j h
theorem Zm8{p:Nat→Bool}:∀(l:bL),l.Pairwise (· < ·)→i∈l→p i=true→
 ∃a b,l.filter p=a++i::b∧(∀j∈a,j<i∧p j=true)∧l.filter (λ k=>p k&&decide (k≠i))=a++b:=by
 intro l;induction l with
 |nil=>simp
 |cons x r ih=>
  intro A u q;have o:=(List.pairwise_cons.1 A);cases u with
  |head=>
   refine⟨[],r.filter p,by simp[q],by simp,?_⟩
   rw[WN,if_neg (by simp),YQ]
   apply List.filter_congr;intro k y;have:=o.1 k y;simp;omega
  |tail _ u=>
   obtain⟨a,b,h1,h2,h3⟩:=ih o.2 u q;have z:=o.1 i u;grind
theorem Pu(n:Nat):(List.range n).Pairwise (· < ·):=List.pairwise_lt_range
theorem ZqO(J:Cj ops L=true){f':FS}:∀(u t:Nat) (listed:Array Bool) (acc:bL) (f:FS),listed.size=ops.size→
 (∀(i:Nat) o,ops[i]? =some o→listed.getD i true=true→∀e∈o.after.toList,Region.binds .any e=true→listed.getD e.on true=true)→
 ((List.range ops.size).filter λ i=>!listed.getD i true).length≤u→
 fa P G N ops nb L ((List.range ops.size).filter λ i=>!listed.getD i true) f f'→
 ∃rest,Region.linearise.go .any ops u t listed acc=acc.reverse++rest∧fa P G N ops nb L rest f f'∧rest.Nodup∧∀i∈rest,i<ops.size∧listed.getD i true=false:=by
 unfold Cj at J;simp only[Yi]at J;obtain⟨O,E⟩:=J;have U:∀(i:Nat) o,ops[i]? =some o→∀e∈o.after.toList,Region.binds .any e=true→e.on<i:=by
  intro i o ho e F T;have:=YW.1 O (o,i) (by
   grind)
  have:=YW.1 this e F;simpa[T]using this
 intro u;induction u with
 |zero=>
  intro t listed acc f Z V X y;have F:(List.range ops.size).filter (λ i=>!listed.getD i true)=[]:=YR.1 (by omega)
  rw[F]at y;exact⟨[],by simp[Region.linearise.go],y,by simp,by simp⟩
 |succ u ih=>
  intro t listed acc f Z V X y;simp only[Region.linearise.go];generalize nU:(List.range ops.size).filter (λ i=>!listed.getD i true&&((ops[i]?).map (·.after.all λ e=>!Region.binds .any e||listed.getD e.on false)).getD false)=rs
  cases rI:rs[t% rs.length]? with
  |none=>
   have Rg:rs=[]:=by
    cases hr:rs with
    |nil=>rfl
    |cons x r=>
     rw[hr]at rI;rw[Y3 (Nat.mod_lt _ (by simp))]at rI
     grind
   have F:(List.range ops.size).filter (λ i=>!listed.getD i true)=[]:=by
    cases hr:(List.range ops.size).filter (λ i=>!listed.getD i true)with
    |nil=>rfl
    |cons x r=>
     exfalso;have hx:x∈(List.range ops.size).filter (λ i=>!listed.getD i true):=by rw[hr];simp
     have H:=Wl.1 hx;have sO:x<ops.size:=by simpa using H.1
     have Q:(x::r).Pairwise (· < ·):=by rw[←hr];exact(Pu _).filter _
     have uo:∀j<x,listed.getD j true=true:=by
      intro j hj;cases hlj:listed.getD j true with
      |true=>rfl
      |false=>
       have:j∈(List.range ops.size).filter (λ i=>!listed.getD i true):=Wl.2 ⟨by grind,by grind⟩
       rw[hr]at this;cases this with
       |head=>omega
       |tail _ h=>have:=(List.pairwise_cons.1 Q).1 j h;omega
     have:x∈rs:=by
      rw[←nU];refine Wl.2 ⟨H.1,?_⟩;simp only[Yi];refine⟨H.2,?_⟩;rw[W6 sO];simp only[YE,YJ];rw[←Array.all_toList,YW];intro e F;by_cases T:Region.binds .any e=true
      ·grind
      ·simp[T]
     grind
   grind
  |some i=>
   simp only;have hi:i∈rs:=YO rI;rw[←nU]at hi;have R:=Wl.1 hi;have B:i<ops.size:=by simpa using R.1
   simp only[Yi]at R;obtain⟨_,Q4,q⟩:=R;rw[W6 B]at q;simp only[YE,YJ]at q;have M:∀e,e∈(ops[i]).after.toList→Region.binds .any e=true→listed.getD e.on true=true:=by
    intro e F T;rw[←Array.all_toList,YW]at q;have:=q e F;simp only[T,YV,Bool.false_or]at this;have uq:=U i _ (W6 B) e F T;have rN:e.on<listed.size:=by omega
    simp only[Wi,W6 rN,YJ]at this⊢;exact this
   obtain⟨a,b,h1,h2,h3⟩:=Zm8 (p:=λ i=>!listed.getD i true) (List.range ops.size) (Pu _) (by omega) Q4
   rw[h1]at y;have C:=y.front (λ j hj=>by
    obtain⟨RP,hju⟩:=h2 j hj;have:=YW.1 E i (by omega)
    have:=YW.1 this j (by grind)
    simp only[Bool.or_eq_true]at this;rcases this with hm|hm
    ·exfalso;have:=Zpb (ops:=ops) (listed:=λ k=>listed.getD k true) V U i i ops[i] (Yg _) (W6 B) M j hm;grind
    omega)
   cases C with
   |cons _ _ _ f1 _ jv Li=>
    have z:∀k,(listed.setIfInBounds i true).getD k true=if k=i then true else listed.getD k true:=by
     intro k;simp only[Wi];by_cases A:k=i
     ·grind
     ·grind
    have R2:(List.range ops.size).filter (λ k=>!(listed.setIfInBounds i true).getD k true)=a++b:=by
     rw[←h3];apply List.filter_congr;intro k _;rw[z];by_cases A:k=i<;>simp[A]
    obtain⟨rest,hr1,Bb,Ri,Rh⟩:=ih (t/rs.length) (listed.setIfInBounds i true) (i::acc) f1 (by grind) (λ k o ho A e F T=>by
     rw[z]at A⊢;by_cases Y:k=i
     ·subst Y;have:o=ops[k]:=by rw[W6 B]at ho;injection ho with ho;exact ho.symm
      subst this;split
      all_goals grind
     ·rw[if_neg Y]at A;split
      all_goals grind)
     (by grind) (by grind)
    refine⟨i::rest,by grind,.cons i rest f f1 f' jv Bb,?_,?_⟩
    ·grind
    ·intro k A;cases A with
     |head=>grind
     |tail _ A=>
      have:=Rh k A;refine⟨this.1,?_⟩;have h5:=this.2;rw[z]at h5;grind
theorem ZqN(q:Cj ops L=true){u:FS}(h:fa P G N ops nb L (List.range ops.size) f u)(t:Nat):
 fa P G N ops nb L (Region.linearise .any ops t) f u∧(Region.linearise .any ops t).Nodup∧∀i,i∈Region.linearise .any ops t→i<ops.size:=by
 have j:∀i<ops.size,(Array.replicate ops.size false).getD i true=false:=by
  intro i x;simp[Wi,x]
 have p:(List.range ops.size).filter (λ i=>!(Array.replicate ops.size false).getD i true)=List.range ops.size:=by
  rw[List.filter_eq_self];intro i x;rw[j i (by simp_all)];rfl
 obtain⟨rest,h1,h2,h3,h4⟩:=ZqO q ops.size t (Array.replicate ops.size false) [] f (by simp) (λ i o ho hl=>by
  grind) (by grind) (by rw[p];exact h)
 unfold Region.linearise;simp_all
end
end
section
variable {a:Act}{f:FS}{r:Option Nat}{w:World}
abbrev WF(r:Option Nat):Fence:={Fence.wide with round:=r}
theorem AF(r:Option Nat)(n:Nat):(WF r).room n:=room_wide n
theorem Us{n:Nat}{P:Program}{f:FuncId}{args:Array Value}{R:Ending→World→Prop}(h:Calls P f args w R):CallsIn (WF r) n P f args w R:=
 callsIn_wide.2 h
def zm:Op→Bool
 |.defer _=>true
 |_=>false
theorem AE{n:Nat}{P:Program}{row:String}{args:Array Value}{R:Value→World→Prop}(h:Rows P row args w R):RowsIn (WF r) n P row args w R:=
 λ c cs _=>by
  obtain⟨v,w',a,b⟩:=h c cs;refine⟨v,w',a,?_⟩;show StepsIn (Machine.fenced P Fence.wide) _ _ _;exact stepsIn_wide.2 b
theorem AI{n:Nat}{P:Program}{o:Oper}{next:Act→World→Prop}{Q:Exit→Act→World→Prop}(hd:zm o.op=false)(h:o.wp P a w next Q):
 o.wpIn (WF r) n P a w next Q:=by
 refine⟨λ _ _=>trivial,?_⟩;have e:Oper.semAt (WF r).round a.eval o=execOp a.eval o:=by
  cases r with
  |none=>rfl
  |some l=>exact Oper.semAt_some l _ _ (λ c i=>by rw[i]at hd;cases hd)
 rw[e];unfold Oper.wp at h;generalize (execOp a.eval o).run P w=X at h⊢;cases X with
 |ok x w'=>
  cases x with
  |enter f args=>exact⟨λ h=>(by cases h),Us h⟩
  |row row args=>exact⟨λ h=>(by cases h),AE h⟩
  |round l f t x y=>exact h.elim
  |_=>exact h
 |halt x w'=>cases x<;>exact h
section
variable {P:Program}{C:Cx}{ops:Array Oper}{nb:Nat}{L:Log}{Q:Exit→Act→World→Prop}
theorem MU{S:Nat→Prop}{ι:bp}{un:Nat→Prop}(h:Inv C S ι un f a w){o:Oper}{b:Bool}(i:gR ops f.g o=some b):
 Region.wanted o (yielded ops a.tmps)=b:=by
 unfold gR at i;unfold Region.wanted;cases hg:o.guard with
 |none=>simp_all
 |some jw=>
  obtain⟨j,want⟩:=jw;rw[hg]at i;simp only at i⊢;split at i
  ·rename_i d hd;split at i
   ·rename_i c y;injection i with i;subst i;have q:=h.tm d;rw[y]at q;have p:=q.dJ;have u:a.tmps[d]? =some (.bool c):=by
     rw[Wi]at p;cases hq:a.tmps[d]? with
     |none=>rw[hq]at p;simp[undef]at p
     |some x=>simp_all
    unfold yielded;simp_all
   ·rename_i vs y;injection i with i;subst i;have q:=h.tm d;rw[y]at q;obtain⟨us,p,_⟩:=q.ib;have A:∀b,a.tmps[d]? ≠some (.bool b):=by
     intro b z;rw[Wi,z]at p;simp at p
    unfold yielded;simp_all
   grind
  grind
theorem ZA{d:Option Nat}{v:AV}{U:List (Nat×Option AO)}(i:bw f.os U=f.os):f.fq d v U=f.fq d v []:=by
 unfold FS.fq;rw[i];rfl
theorem ZD{S:Nat→Prop}{ι:bp}{un:Nat→Prop}{id:Nat}{o:Oper}{next:Act→World→Prop}
 {op:Op} {v:AV} {U:List (Nat×Option AO)} {RO:bL} (j:o.op=op) (h:Inv C S ι un f a w)
 (i:iz P C.G (ig C.G f.g) f.os id op v U RO) (p:∀x,id≤x→x<id+W→un x) (hd:∀d,o.dst=some d→C.N.lo≤d∧d<C.N.n) (hn:gK C un id o f v U next):
 o.wp P a w next Q:=by
 cases i with
 |of i=>exact M4 j h i p hd hn
 |same i hs hr=>
  refine M4 j h i p hd (λ S' ι' a' w' q=>hn S' ι' a' w' ?_);exact(ZA hs)▸q
theorem Ns:∀{l:bL} {f R:FS},fa P C.G C.N ops nb L l f R→l.Nodup→∀{S:Nat→Prop} {ι:bp} {un:Nat→Prop} {a:Act} {w:World},
 Inv C S ι un f a w→(∀i∈l,∀x,nb+i*W≤x→x<nb+i*W+W→un x)→(∀i∈l,∀o,ops[i]? =some o→zm o.op=false)→
 (∀S' ι' a' w',Inv C S' ι' (λ x=>un x∧∀i∈l,¬(nb+i*W≤x∧x<nb+i*W+W)) R a' w'→Q .normal a' w')→wpOpsIn (WF r) 0 P ops Q l a w:=by
 intro l f R O;induction O with
 |nil f=>
  intro _ S ι un a w h _ _ H;exact H S ι a w (h.less (λ x A=>A.1))
 |cons i l f f1 f2 jv _ ih=>
  intro T S ι un a w h F E H;obtain⟨V,z⟩:=VA.1 T;have u:∀k∈l,∀x,nb+k*W≤x→x<nb+k*W+W→¬(nb+i*W≤x∧x<nb+i*W+W):=by
   intro k q x h1 B X;have:k≠i:=λ e=>V (e▸q);have Y:W=32:=rfl
   simp only[Y]at h1 B X;omega
  cases jv with
  |run o v U RO ho hw hA hd hL=>
   simp only[wpOpsIn,ho];rw[if_pos (MU h hw)];refine AI (E i (by simp) o ho) (ZD rfl h hA (λ x h1 B=>F i (by simp) x h1 B) hd (λ S' ι' a' w' y=>?_))
   refine ih z y (λ k q x h1 B=>⟨F k (by simp[q]) x h1 B,u k q x h1 B⟩) (λ k q=>E k (by simp[q])) (λ S2 ι2 J M p=>?_)
   refine H S2 ι2 J M (p.less (λ x A=>⟨⟨A.1,A.2 i (by simp)⟩,λ k q=>A.2 k (by simp[q])⟩))
  |skip o ho hw hd hL=>
   simp only[wpOpsIn,ho];rw[if_neg (by rw[MU h hw];simp)]
   refine⟨λ _ _=>trivial,?_⟩;have y:Inv C S ι un (f.fq o.dst (.cx []) []) (a.put o.dst undef) w:=by
    have:=h.put (dst:=o.dst) (v:=.cx []) (v':=undef) (.cu _ _ (.cx [] #[] rfl (λ j x v h=>by simp at h))) hd
    have e:f.fq o.dst (.cx []) []=f.put o.dst (.cx []):=by
     unfold FS.fq;cases o.dst<;>rfl
    rw[e];exact this
   refine ih z y (λ k q x h1 B=>F k (by simp[q]) x h1 B) (λ k q=>E k (by simp[q])) (λ S2 ι2 J M p=>?_)
   refine H S2 ι2 J M (p.less (λ x A=>⟨A.1,λ k q=>A.2 k (by simp[q])⟩))
theorem Ot{A:Nat}{draw:Bool}{y:FS}(E:P.follows .mixedOrders=true)(h:fa P C.G C.N ops nb L (List.range ops.size) f y)
 (hd:draw=true→Cj ops L=true) {S:Nat→Prop} {ι:bp} (p:Inv C S ι (λ x=>nb≤x) f a w)
 (z:∀o∈ops.toList,zm o.op=false)
 (F:∀S' ι' a' w',Inv C S' ι' (λ x=>nb+ops.size*W≤x) y a' w'→Q .normal a' w'):(Code.region A ops draw).wpIn (WF r) 0 P Q a w:=by
 have j:∀(i:Nat) (o:Oper),ops[i]? =some o→zm o.op=false:=λ i o ho=>z o (YO (by simpa using ho))
 have q:∀(l:bL),(∀i∈l,i<ops.size)→∀S' ι' a' w',Inv C S' ι' (λ x=>nb≤x∧∀i∈l,¬(nb+i*W≤x∧x<nb+i*W+W)) y a' w'→Q .normal a' w':=by
  intro l M S' ι' a' w' B;refine F S' ι' a' w' (B.less (λ x hx=>⟨by omega,λ i u=>?_⟩))
  have:=M i u;have:(i+1)*W≤ops.size*W:=YK _ this;rw[Wg]at this;omega
 cases draw with
 |false=>
  refine wpIn_region ?_;exact Ns h List.nodup_range p (λ i _ x h1 _=>by omega) (λ i _=>j i) (q _ (λ i B=>by simp_all))
 |true=>
  refine wpIn_region_draw (λ t=>?_);have e:Region.schedule (P.follows .mixedOrders) ops t=Region.linearise .any ops t:=by
   unfold Region.schedule;rw[E];simp
  rw[e];obtain⟨h1,J,H⟩:=ZqN (hd rfl) h t;exact Ns h1 J p.drew (λ i _ x h1 _=>by omega) (λ i _=>j i) (q _ H)
end
end
def kS(b:Bool)(A B:Prop):Prop:=Bool.rec (motive:=λ _=>Prop) B A b
def uF(b:Bool)(A B:Prop):Prop:=Bool.rec (motive:=λ _=>Prop) B A b
theorem iv{b:Bool}{A B:Prop}(h1:b=true→A)(i:b=false→B):kS b A B:=by
 cases b
 ·exact i rfl
 ·exact h1 rfl
theorem gD{b:Bool}{A B:Prop}(h:kS b A B):(b=true∧A)∨(b=false∧B):=by
 cases b
 ·exact .inr ⟨rfl,h⟩
 ·exact .inl ⟨rfl,h⟩
def opt{α:Type}(x:Option α)(K:α→Prop):Prop:=Option.rec (motive:=λ _=>Prop) False (λ y=>K y) x
theorem fX{α:Type}{x:Option α}{K:α→Prop}(y:α)(h:x=some y)(i:K y):opt x K:=by rw[h];exact i
theorem bN{α:Type}{x:Option α}{K:α→Prop}(h:opt x K):∃y,x=some y∧K y:=by
 cases x with
 |none=>exact h.elim
 |some y=>exact⟨y,rfl,h⟩
mutual
def iK:AV→(AV→Prop)→Prop
 |.int k n,K=>K (.int k n)
 |.bool b,K=>K (.bool b)
 |.str s,K=>K (.str s)
 |.dK,K=>K .dK
 |.sl xs,K=>K (.sl xs)
 |.agg cs,K=>fL cs λ cs=>K (.agg cs)
 |.cx cs,K=>fL cs λ cs=>K (.cx cs)
 |.rp row c,K=>K (.rp row c)
 |.fn f cs,K=>fL cs λ cs=>K (.fn f cs)
 |.eT v,K=>K (.eT v)
 |.ptr o r c,K=>K (.ptr o r c)
 |.fp o a b c,K=>K (.fp o a b c)
 |.bf o z,K=>K (.bf o z)
 |.bm o,K=>K (.bm o)
 |.undef,K=>K .undef
 |.eR p,K=>K (.eR p)
def fL:List AV→(List AV→Prop)→Prop
 | [],K=>K []
 |x::r,K=>iK x λ x=>fL r λ r=>K (x::r)
end
mutual
theorem lY:∀(x:AV) (K:AV→Prop),iK x K=K x
 |.int k n,K=>rfl
 |.bool b,K=>rfl
 |.str s,K=>rfl
 |.dK,K=>rfl
 |.sl xs,K=>rfl
 |.agg cs,K=>by simp only[iK];rw[ir]
 |.cx cs,K=>by simp only[iK];rw[ir]
 |.rp row c,K=>rfl
 |.fn f cs,K=>by simp only[iK];rw[ir]
 |.eT v,K=>rfl
 |.ptr o r c,K=>rfl
 |.fp o a b c,K=>rfl
 |.bf o z,K=>rfl
 |.bm o,K=>rfl
 |.undef,K=>rfl
 |.eR p,K=>rfl
theorem ir:∀(l:List AV) (K:List AV→Prop),fL l K=K l
 | [],K=>rfl
 |x::r,K=>by simp only[fL];rw[lY,ir]
end
def fR:List (List AV)→(List (List AV)→Prop)→Prop
 | [],K=>K []
 |x::r,K=>fL x λ x=>fR r λ r=>K (x::r)
theorem vK:∀(l:List (List AV)) (K:List (List AV)→Prop),fR l K=K l
 | [],K=>rfl
 |x::r,K=>by simp only[fR];rw[ir,vK]
abbrev Tm:=List (Nat×AV)
abbrev Os:=List (Nat×AO)
def cO(g:Tm)(t:Nat):AV:=
 match g with
 | []=>.undef
 |(k,v)::r=>if t=k then v else cO r t
def pK(k:Nat)(x:AO):Os→Os
 | []=>[(k,x)]
 |(k',y)::r=>if k=k' then(k,x)::r else(k',y)::pK k x r
def nu(k:Nat):Os→Os
 | []=>[]
 |(k',y)::r=>if k=k' then nu k r else(k',y)::nu k r
def ia(os:Os):List (Nat×Option AO)→Os
 | []=>os
 |(k,some x)::r=>pK k x (ia os r)
 |(k,none)::r=>nu k (ia os r)
theorem US(k:Nat)(x:AO):∀(os:Os) (o:Nat),lk (pK k x os) o=if o=k then some x else lk os o:=by
 intro os;induction os with
 |nil=>intro o;rfl
 |cons e r ih=>
  intro o;obtain⟨k',y⟩:=e;simp only[pK];by_cases h:k=k'
  ·subst h;simp only[Yz,lk];grind
  ·simp only[h,Ym,lk,ih];grind
theorem UR(k:Nat):∀(os:Os) (o:Nat),lk (nu k os) o=if o=k then none else lk os o:=by
 intro os;induction os with
 |nil=>intro o;simp[nu,lk]
 |cons e r ih=>
  intro o;obtain⟨k',y⟩:=e;simp only[nu];by_cases h:k=k'
  ·subst h;simp only[Yz,ih,lk];simp_all
  ·simp only[h,Ym,lk,ih];grind
theorem B8(os:Os):∀(U:List (Nat×Option AO)),lk (ia os U)=bw (lk os) U:=by
 intro U;induction U with
 |nil=>rfl
 |cons e r ih=>
  obtain⟨k,x⟩:=e;funext o;cases x with
  |some x=>simp only[ia,US,bw,ih]
  |none=>simp only[ia,UR,bw,ih]
theorem ZqK(g:Tm)(os:Nat→Option AO)(d:Option Nat)(v:AV):(FS.mk (cO g) os).put d v=FS.mk (cO (match d with|some d=>(d,v)::g|none=>g)) os:=by
 cases d with
 |none=>rfl
 |some d=>rfl
def dn(g:Tm)(os:Os):FS:=⟨cO g,lk os⟩
theorem No(g:Tm)(os:Os)(d:Option Nat)(v:AV)(U:List (Nat×Option AO)):
 (dn g os).fq d v U=dn (match d with|some d=>(d,v)::g|none=>g) (ia os U):=by
 unfold dn FS.fq;rw[ZqK,B8]
def fO:Os→(Os→Prop)→Prop
 | [],K=>K []
 |(k,x)::r,K=>fO r λ r=>K ((k,x)::r)
theorem r7:∀(os:Os) (K:Os→Prop),fO os K=K os
 | [],K=>rfl
 |(k,x)::r,K=>by simp only[fO];rw[r7]
def fN(n:Nat)(K:Nat→Prop):Prop:=Nat.rec (motive:=λ _=>Prop) (K 0) (λ m _=>K (m+1)) n
theorem lW(n:Nat)(K:Nat→Prop):fN n K=K n:=by cases n<;>rfl
def uD(k:Nat)(x:AO):Os→(Os→Prop)→Prop
 | [],K=>K [(k,x)]
 |(k',y)::r,K=>if k=k' then K ((k,x)::r)else uD k x r λ r=>K ((k',y)::r)
def r8(k:Nat):Os→(Os→Prop)→Prop
 | [],K=>K []
 |(k',y)::r,K=>if k=k' then r8 k r K else r8 k r λ r=>K ((k',y)::r)
theorem Mt(k:Nat)(x:AO):∀(os:Os) (K:Os→Prop),uD k x os K=K (pK k x os)
 | [],K=>rfl
 |(k',y)::r,K=>by
  simp only[uD,pK];split
  ·rfl
  ·rw[Mt]
theorem IW(k:Nat):∀(os:Os) (K:Os→Prop),r8 k os K=K (nu k os)
 | [],K=>rfl
 |(k',y)::r,K=>by
  simp only[r8,nu];split
  ·rw[IW]
  ·rw[IW]
def xt(os:Os):List (Nat×Option AO)→(Os→Prop)→Prop
 | [],K=>fO os K
 |(k,some x)::r,K=>xt os r λ os=>fN k λ k=>uD k x os K
 |(k,none)::r,K=>xt os r λ os=>fN k λ k=>r8 k os K
theorem IA(os:Os):∀(U:List (Nat×Option AO)) (K:Os→Prop),xt os U K=K (ia os U)
 | [],K=>r7 _ _
 |(k,some x)::r,K=>by simp only[xt,ia];rw[IA];rw[lW,Mt]
 |(k,none)::r,K=>by simp only[xt,ia];rw[IA];rw[lW,IW]
def fU(p:Bool)(rs:List (List AV))(K:AO→Prop):Prop:=
 Bool.rec (motive:=λ _=>Prop) (fR rs λ rs=>K (.rows false rs)) (K (.rows true rs)) p
theorem kP(p:Bool)(rs:List (List AV))(K:AO→Prop):fU p rs K=K (.rows p rs):=by
 cases p
 ·simp only[fU];rw[vK]
 ·rfl
def jc(ol:Nat→Option AO)(o:Nat):Option (List (List AV)):=
 match ol o with
 |some (.rows true rs)=>some rs
 |some (.rows false rs)=>some rs
 |some (.dD rs)=>some rs
 |_=>none
theorem xU{ol:Nat→Option AO}{o:Nat}{rs:List (List AV)}(h:jc ol o=some rs):∃y,ol o=some y∧(y=.rows true rs∨y=.rows false rs∨y=.dD rs):=by
 unfold jc at h;grind
end Go.Ab
