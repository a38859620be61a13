import Derived.Test.YtjpmdkgonlmddaaGreatDoorAbH
set_option linter.unusedVariables false
namespace Go.Ab
section
variable {S:Nat→Prop}{w:World}
theorem Inv.act{C:Cx}{ι:bp}{un:Nat→Prop}{gx:Tm}{os:Os}{a a':Act}(h:Inv C S ι un (dn gx os) a w){lo:Nat}
 (hg:gx.all (λ e=>decide (e.1<lo))=true) (ht:∀t<lo,a'.tmps.getD t undef=a.tmps.getD t undef) (N:Sl) (kv:Nat→Value) (dfs:List Deferred) (qb:List (Nat×Obj))
 (fg:a'.tmps.size=N.n) (Bv:a'.defers=dfs) (sP:∀t<N.lo,a'.tmps.getD t undef=kv t) (hq:∀q∈qb,S q.1∧w.heap[q.1]? =some q.2):
 Inv {C with N:=N,kv:=kv,dfs:=dfs,qb:=qb} S ι un (dn gx os) a' w:=by
 refine⟨λ t=>?_,fg,⟨Bv,sP,hq⟩,h.ob,h.own,h.inj,h.sb,h.sn,h.un,h.fr,h.fo,h.gv,h.s0,h.hj⟩;show cz S w ι (cO gx t) _
 rcases Oe (g:=gx) (t:=t)with hu|hm
 ·rw[hu];exact .cu _ _ (.undef _)
 ·have:=YW.1 hg _ hm;simp only[YB]at this;rw[ht t this];exact h.tm t
theorem Nn(g:Tm)(os:Os)(p:Nat)(v:AV):(dn g os).put (some p) v=dn ((p,v)::g) os:=by
 rfl
theorem UM{zs:aa}{v:Value}(jO:∀b,S b→b<w.heap.size)(h:cE S w (.sl (zs.map λ z=>[.int .i64 z])) v):
 ∃qz:List (Nat×Obj),(∀q∈qz,S q.1∧w.heap[q.1]? =some q.2)∧∀W:World,(∀q∈qz,W.heap[q.1]? =some q.2)→IC W v zs:=by
 generalize hX:AV.sl (zs.map λ z=>[.int .i64 z])=X at h;cases h with
 |gG=>
  injection hX with hX;have:zs=[]:=by simpa using hX
  subst this;exact⟨[],⟨λ q hq=>(by cases hq),λ W _=>⟨none,0,rfl,λ j z hz=>by simp at hz⟩⟩⟩
 |sl xs ad cap sz bc iH cS hS hlen dC du=>
  injection hX with hX;subst hX;cases zs with
  |nil=>exact⟨[],⟨λ q hq=>(by cases hq),λ W _=>⟨some ad,cap,rfl,λ j z hz=>by simp at hz⟩⟩⟩
  |cons z0 zr=>
   have LG:=hS (by simp)
   obtain⟨o,ho⟩:∃o,w.heap[ad.block]? =some o:=⟨_,W6 (jO _ LG.1)⟩;refine⟨[(ad.block,o)],λ q hq=>?_,λ W hW=>⟨some ad,cap,by simp,λ j z hz=>⟨ad,rfl,LG.2,?_⟩⟩⟩
   ·simp_all
   ·have hr:((z0::zr).map λ z=>[AV.int .i64 z])[j]? =some [.int .i64 z]:=by rw[YD,hz];rfl
    have hj:=fD hr;have hl:=hlen j _ hr;have fg:sz=1:=by rw[←hl.1];rfl
    subst fg;obtain⟨u,hu⟩:∃u,(bc j)[0]? =some u:=⟨_,Y3 (by omega)⟩
    have h1:=dC j 0 u hj hu;have h2:=du j 0 _ _ u hr rfl hu;cases h2;have hb:W.heap[ad.block]? =w.heap[ad.block]? :=(hW (ad.block,o) (by simp)).trans ho.symm
    have:=(l9 (j:=ad.off+(j*1+0)) hb).trans h1.1;simp_all
 |_=>cases hX
theorem AD{zs:aa}{v:Value}(jO:∀b,S b→b<w.heap.size)(h:cE S w (.rp [.sl (zs.map λ z=>[.int .i64 z])] 0) v):
 ∃pa:Addr,v=.pointer (some pa)∧∃qz:List (Nat×Obj),(∀q∈qz,S q.1∧w.heap[q.1]? =some q.2)∧∀W:World,(∀q∈qz,W.heap[q.1]? =some q.2)→∃u,W.cell? pa=some u∧IC W u zs:=by
 cases h with
 |rp row off bB base bc hS hl dC du=>
  refine⟨⟨bB,base+0,none⟩,rfl,?_⟩;obtain⟨u,hu⟩:∃u,bc[0]? =some u:=⟨_,Y3 (by grind)⟩
  obtain⟨qz,h1,h2⟩:=UM jO (du 0 _ u rfl hu);obtain⟨o,ho⟩:∃o,w.heap[bB]? =some o:=⟨_,W6 (jO _ hS)⟩;refine⟨(bB,o)::qz,λ q hq=>?_,λ W hW=>⟨u,?_,h2 W (λ q hq=>hW q (Yn _ hq))⟩⟩
  ·grind
  ·have hb:W.heap[bB]? =w.heap[bB]? :=(hW _ Yp).trans ho.symm;exact(l9 (j:=base+0) hb).trans (dC 0 u hu).1
set_option maxHeartbeats 1000000 in
theorem XS{P:Program}{C:Cx}{ι:bp}{a:Act}{g:Tm}{os:Os}{nx:Nat}{zf:Operand}{ps:Array Tmp}{assign body:Code}
 {X:Nat→Bool→(Tm→Os→Nat→Prop)→Tm→Os→Nat→Prop} {K:Tm→Os→Nat→Prop} {Q:Exit→Act→World→Prop}
 (Bv:C.dfs=[]∧C.qb=[])
 (hX:∀(C':Cx) lo b κ g os nx l,C'.N=⟨lo,C.N.n,true⟩→C'.G=C.G→C'.m=C.m→X lo b κ g os nx→∀S ι a w,Inv C' S ι (λ x=>nx≤x) (dn g os) a w→
  (bif b then body else assign).wpIn (WF (some l)) 0 P (Exit.then (λ a w=>∃g os nx S ι,κ g os nx∧Inv C' S ι (λ x=>nx≤x) (dn g os) a w) (λ _ _ _=>False)) a w)
 (hK:∀D g os nx,K g os nx→C.Ow D→∀S ι a w,Inv (C.fV D) S ι (λ x=>nx≤x) (dn g os) a w→Q .normal a w)
 (hR:IE P C.N C.m g os nx (ig C.G (cO g) zf) ps.toList X K) (hinv:Inv C S ι (λ x=>nx≤x) (dn g os) a w):
 (Code.rangeFunc zf ps assign body).wpIn (WF none) 0 P Q a w:=by
 obtain⟨fB,zs,p,q,lo,α,gx,dm,tS,I,x0,σ0,hB,RV,Rl,hd,Sy,xo,nV,HZ⟩:=hR.h;simp only[Yi,YB]at hd;obtain⟨⟨⟨⟨⟨Rn,Hn⟩,yV⟩,vE⟩,hpq⟩,HM⟩:=hd;have gJ:=hinv.ev zf;rw[show(dn g os).g=cO g from rfl,RV]at gJ
 obtain⟨vs,hv,hL⟩:=gJ.ie;obtain⟨vs⟩:=vs;obtain⟨hlen,du⟩:=hL
 match vs,hlen with
 | [pv],_=>
 have D2:cE S w (.rp [.sl (zs.map λ z=>[.int .i64 z])] 0) pv:=by
  have h:=du 0 _ pv rfl rfl;cases h with|cu _ _ h=>exact h
 have Ry:zs.length≤bI:=by
  cases D2 with
  |rp row off bB base bc hS hl dC hrep2=>
   obtain⟨u,hu⟩:∃u,bc[0]? =some u:=⟨_,Y3 (by grind)⟩
   have:=hrep2 0 _ u rfl hu;generalize hX:AV.sl (zs.map λ z=>[.int .i64 z])=X at this;cases this with
   |gG=>
    injection hX with hX;have:zs=[]:=by simpa using hX
    grind
   |sl xs ad cap sz bc iH cS hS hlen dC du=>grind
   |_=>cases hX
 obtain⟨pa,rfl,qz,xb,Hi⟩:=AD hinv.sb D2;rw[xB (Cc hB.1)]at hv;have BC:a.defers=[]:=hinv.df.1.trans Bv.1;refine wpIn_rangeFunc ?_;intro fn _;let gr:LoopState→Loop:=λ st=>{state:=st,pending:=none,fn:=fn,tmps:=a.tmps,params:=ps,assign:=assign,body:=body,defers:=w.heap.size};let D:=w.heap.size
 let L:=w.heap.size+1;have Sq:C.Ow D:=hinv.fo _ hinv.fr.size;have Ib:C.Ow L:=hinv.fo _ (Nat.le_succ_of_le hinv.fr.size);have Bc:∀q∈qz,q.1<D:=λ q hq=>hinv.sb _ (xb q hq).1;have ln:=hinv.lay (.deferred (some [])) (a':=a) (dfs:=[]) (qb:=(D,.deferred (some []))::qz) rfl BC (λ q hq=>by
  rcases Yr.1 hq with rfl|hq
  ·exact⟨.inr rfl,World.alloc_heap_new w _⟩
  ·exact⟨.inl (xb q hq).1,(so w _ _ (Bc q hq)).trans (xb q hq).2⟩)
 have Ha:(w.alloc (.deferred (some []))).heap.size=L:=by rw[VL]
 have iV:=ln.lay (.loop (gr .ready)) (a':=a) (dfs:=[]) (qb:=(L,.loop (gr .ready))::(D,.deferred (some []))::qz) rfl BC (λ q hq=>by
  rcases Yr.1 hq with rfl|hq
  ·refine⟨.inr Ha.symm,?_⟩;have:=World.alloc_heap_new (w.alloc (.deferred (some []))) (.loop (gr .ready));grind
  ·have h:=ln.df.2.2 q hq;exact⟨.inl h.1,(so _ _ _ (ln.sb _ h.1)).trans h.2⟩)
 generalize y9:(w.alloc (.deferred (some []))).alloc (.loop (gr .ready))=W1 at iV;generalize sV:(λ b=>(S b∨b=w.heap.size)∨b=(w.alloc (.deferred (some []))).heap.size)=S2 at iV;obtain⟨ι1,mO⟩:=iV.vO xo
 let Cr:LoopState→Cx:=λ st=>{C with N:=⟨lo,C.N.n,true⟩,kv:=λ t=>a.tmps.getD t undef,dfs:=[],qb:=(L,.loop (gr st))::(D,.deferred (some []))::qz};let a0:Act:={tmps:=a.tmps,defers:=[]}
 let J:Nat→World→Prop:=λ k W=>∃x S ι,I k x∧Inv (Cr .ready) S ι (λ y=>tS≤y) (dn gx (dm x)) a0 W;have Sw:J 0 W1:=⟨x0,_,_,Sy,mO.act (a':=a0) HM (λ t _=>rfl) ⟨lo,C.N.n,true⟩ (λ t=>a.tmps.getD t undef) [] _ hinv.sz rfl (λ t _=>rfl) mO.df.2.2⟩
 refine⟨L,[mark D],W1,{target:=.fn (.func fB) #[.pointer (some pa)],args:=#[.func (.yield L) #[] #[]]},W1,fB,#[.func (.yield L) #[] #[]]++ #[.pointer (some pa)],W1,?_,?_,λ _ _=>trivial,?_,λ h=>(by cases h),?_⟩
 ·rw[←y9];exact run_enterLoop_outer _ _ _ _ _
 ·simp only[resolve,hv];simp[go_sem]
 ·simp[invoke,go_sem,JZ hB.1]
 ·have Rj:∀k W,J k W→W.heap[L]? =some (.loop (gr .ready))∧W.heap[D]? =some (.deferred (some []))∧∀q∈qz,W.heap[q.1]? =some q.2:=by
   rintro k W ⟨x,S,ι,_,hi⟩;exact⟨(hi.df.2.2 (L,.loop (gr .ready)) (by simp[Cr])).2,(hi.df.2.2 (D,.deferred (some [])) (by simp[Cr])).2,λ q hq=>(hi.df.2.2 q (by grind)).2⟩
  refine CallsIn.mono (hB.2 L pa zs J W1 Ry (λ k W hk=>Hi W (Rj k W hk).2.2) ?_ Sw) ?_
  ·
   rintro k z W RE ⟨x,S,ι,Sx,hi⟩;have St:W.heap[L]? =some (.loop (gr .ready)):=(hi.df.2.2 (L,.loop (gr .ready)) (by simp[Cr])).2
   have Hl:ps=#[p,q]:=by
    apply Array.toList_inj.1;rw[Rl]
   have hy:=run_yield (P:=P) (args:=#[.int .i64 ((zs.length-1-k:Nat):Int),.int .i64 z]) St (by grind)
   refine⟨_,_,_,_,hy,roundIn_of_wpIn trivial ?_⟩;have A6:(((gr .ready).params.zip #[Value.int .i64 ((zs.length-1-k:Nat):Int),.int .i64 z]).foldl (λ tmps (t,a)=>tmps.setIfInBounds t a) (gr .ready).tmps)
    =(a.tmps.setIfInBounds p (.int .i64 ((zs.length-1-k:Nat):Int))).setIfInBounds q (.int .i64 z):=by
    show((ps.zip _).foldl _ a.tmps)=_;rw[Hl];simp
   have Bd:=(hi.put (dst:=some p) (v:=.int .i64 ((zs.length-1-k:Nat):Int)) (v':=.int .i64 ((zs.length-1-k:Nat):Int)) (.cu _ _ (.int _ _)) (λ d e=>by
    grind)).put (dst:=some q) (v:=.int .i64 z) (v':=.int .i64 z) (.cu _ _ (.int _ _)) (λ d e=>by
    grind)
   rw[Nn,Nn]at Bd;have lB:=hX (Cr .ready) lo false _ _ _ _ L rfl rfl rfl (nV k z x RE Sx) S ι _ W Bd;rw[show(gr .ready).assign=(bif false then body else assign)from rfl,A6]
   refine wpIn_mono lB ?_;intro e a1 w1 he;cases e with
   |normal=>
    obtain⟨g1,wY,wZ,S1,ι1,Sg,ln⟩:=he;have h1:=ln.df.2.2 (L,.loop (gr .ready)) (by simp[Cr])
    refine⟨_,run_beginRound h1.2 rfl,?_⟩;have iF:∀q∈qz,q.1≠L:=λ q hq e=>by grind
    have HK:Inv (Cr .busy) S1 ι1 (λ x=>wZ≤x) (dn g1 wY) a1 (w1.putObj L (.loop (gr .busy))):=ln.tN (o':=.loop (gr .busy)) (a':=a1) (dfs:=[]) (qb:=(L,.loop (gr .busy))::(D,.deferred (some []))::qz)
     h1.1 Ib h1.2 rfl rfl rfl ln.df.1 (λ q hq=>by
      rcases Yr.1 hq with rfl|hq
      ·exact⟨h1.1,U8 (ln.sb _ h1.1)⟩
      ·have h:=ln.df.2.2 q (by grind)
       refine⟨h.1,(WK ?_).trans h.2⟩;grind)
    have kN:=hX (Cr .busy) lo true _ _ _ _ L rfl rfl rfl Sg S1 ι1 a1 _ HK;refine wpIn_mono kN ?_;intro e a2 w2 he;cases e with
    |normal=>
     obtain⟨g2,os2,QK,S2,ι2,⟨x',σ,LK,Bw⟩,iV⟩:=he;have h2:=iV.df.2.2 (L,.loop (gr .busy)) (by simp[Cr])
     refine⟨_,_,run_endRound none h2.2,rfl,x',S2,?_⟩;have HJ:Inv (Cr .ready) S2 ι2 (λ x=>QK≤x) (dn g2 os2) a2 (w2.putObj L (.loop (gr .ready))):=iV.tN (o':=.loop (gr .ready)) (a':=a2) (dfs:=[]) (qb:=(L,.loop (gr .ready))::(D,.deferred (some []))::qz)
      h2.1 Ib h2.2 rfl rfl rfl iV.df.1 (λ q hq=>by
       rcases Yr.1 hq with rfl|hq
       ·exact⟨h2.1,U8 (iV.sb _ h2.1)⟩
       ·have h:=iV.df.2.2 q (by grind)
        refine⟨h.1,(WK ?_).trans h.2⟩;grind)
     obtain⟨ι3,mO⟩:=HJ.vO Bw;refine⟨ι3,LK,?_⟩;exact mO.act (a':=a0) HM (λ t ht=>(mO.df.2.1 t ht).symm) ⟨lo,C.N.n,true⟩ (λ t=>a.tmps.getD t undef) [] _ hinv.sz rfl (λ t _=>rfl) mO.df.2.2
    |_=>exact he.elim
   |_=>exact he.elim
  ·
   rintro e W2 ⟨⟨v,rfl⟩,x,S3,ι3,Ie,hi⟩;have h1:=hi.df.2.2 (L,.loop (gr .ready)) (by simp[Cr])
   have h2:=hi.df.2.2 (D,.deferred (some [])) (by simp[Cr])
   refine⟨none,_,run_endLoop h1.2 (by simp),?_⟩
   have HI:=hi.tN (o':=.loop {gr .ready with state:=.exhausted}) (a':=a0) (dfs:=[]) (qb:=[(D,.deferred (some []))]) h1.1 Ib h1.2 rfl rfl rfl rfl (λ q hq=>by
    rw[Yu.1 hq];exact⟨h2.1,(WK (by omega)).trans h2.2⟩)
   have RT:=HI.act (a':={a with defers:=[mark D]++a.defers}) HM (λ t _=>rfl) {C.N with no:=true} C.kv [mark D] [(D,.deferred (some []))] hinv.sz (by grind) hinv.df.2.1 HI.df.2.2
   exact hK D _ _ _ (HZ x Ie) Sq _ _ _ _ RT
end
theorem JV{P:Program}{C C':Cx}{r:Option Nat}{B:Exit→Act→World→Prop}:∀{k:List tK},IK k=true→KQ P C r B k=KQ P C' r B k
 | [],_=>rfl
 |.code c::k,h=>by simp only[KQ];rw[JV (C':=C') (k:=k) h]
 |.bB id::k,h=>by simp only[KQ];rw[JV (C':=C') (k:=k) h]
 |.stop _::_,h=>by cases h
theorem Zn5{P:Program}(hm:P.follows .mixedOrders=true)(n:Nat):∀{r:Option Nat} {C:Cx} {fin:Tm→Os→Prop} {B:Exit→Act→World→Prop}
 (_:C.N.no=false→r=none∧C.dfs=[]∧C.qb=[])
 (_:∀C',C.to C'→∀g os,fin g os→∀S ι un a w,Inv C' S ι un (dn g os) a w→B .normal a w∧B .ret a w)
 (k:List tK) (g:Tm) (os:Os) (nx:Nat),ep P C.G C.N C.m fin n k g os nx→∀S ι a w,Inv C S ι (λ x=>nx≤x) (dn g os) a w→KQ P C r B k .normal a w:=by
 induction n with
 |zero=>intro r C fin B hr j8 k g os nx h;exact h.elim
 |succ n ihA=>
  intro r C fin B hr j8 k g os nx h S ι a w hinv;have ih:=λ(k:List tK) (g:Tm) (os:Os) (nx:Nat) (h:ep P C.G C.N C.m fin n k g os nx)=>ihA hr j8 k g os nx h;cases k with
  |nil=>exact(j8 C .refl g os h S ι _ a w hinv).1
  |cons f k=>
   cases f with
   |bB id=>exact ih k g os nx h S ι a w hinv
   |stop κ=>exact⟨g,os,nx,S,ι,h,hinv⟩
   |code c=>
    show c.wpIn (WF r) 0 P (KQ P C r B k) a w;simp only[ep]at h;rcases AH h with h|⟨R,gx,dm,tS,Bz,hK⟩
    rotate_left
    ·have h1:c.wpIn (WF r) 0 P (KQ P C r B (.stop _::k)) a w:=ih _ g os nx Bz S ι a w hinv;refine wpIn_mono (Exit.lQ (N2:=KQ P C r B k .normal) h1 ?_) ?_
     ·rintro a' w' ⟨g',cr,_,S',ι',⟨hR,σ,hc⟩,kH⟩;obtain⟨ι2,vH⟩:=kH.vO hc;grind
     ·intro e a' w' hq;cases e<;>exact hq
    cases c with
    |skip=>exact wpIn_skip (ih k g os nx h S ι a w hinv)
    |seq x y=>exact wpIn_seq (ih _ g os nx h S ι a w hinv)
    |cond c x y=>
     simp only at h;split at h
     ·rename_i b hb;have hv:=hinv.ev c;rw[show(dn g os).g=cO g from rfl,hb]at hv
      rcases gD h with ⟨uz,h'⟩|⟨uz,h'⟩
      ·subst uz;exact wpIn_cond_true hv.dJ (ih _ g os nx h' S ι a w hinv)
      ·subst uz;exact wpIn_cond_false hv.dJ (ih _ g os nx h' S ι a w hinv)
     ·rename_i p hb;have hv:=hinv.ev c;rw[show(dn g os).g=cO g from rfl,hb]at hv
      obtain⟨b,hv,hp⟩:=hv.sg;cases b with
      |true=>exact wpIn_cond_true hv (ih _ g os nx (h.1 (hp rfl)) S ι a w hinv)
      |false=>exact wpIn_cond_false hv (ih _ g os nx h.2 S ι a w hinv)
     simp_all
    |block id c=>exact wpIn_block (ih _ g os nx h S ι a w hinv)
    |exit id=>
     simp only at h;split at h
     ·rename_i k' hk;exact wpIn_exit (S8 hk (ih k' g os nx h S ι a w hinv))
     simp_all
    |ret=>exact wpIn_ret (TX (j8 C .refl g os h S ι _ a w hinv).2)
    |region id ops draw=>
     simp only at h;rcases gD h with ⟨pT,h'⟩|⟨_,h'⟩
     ·obtain⟨g',cr,ext,hK,hlen,LA⟩:=UL (N:=C.N) ops.toList 0 g os [] _ (λ k o hk=>by simp_all) pT rfl h'
      simp only[YI,WA]at hK hlen LA;have oh:=LA (kE ext) (λ k _ _=>rfl);rw[ZnG]at oh
      cases draw with
      |false=>
       exact Ot hm oh (λ e=>by cases e) hinv (Pd pT) (λ S' ι' a' w' kH=>ih k g' cr _ (cast (lW _ _) hK) S' ι' a' w' kH)
      |true=>
       exact Ot hm oh (λ _=>hK.1) hinv (Pd pT) (λ S' ι' a' w' kH=>ih k g' cr _ (cast (lW _ _) hK.2) S' ι' a' w' kH)
     simp_all
    |loop body=>
     simp only at h;obtain⟨α,gx,dm,tS,I,μ,x0,σ0,hI,xo,nV⟩:=h;refine Zo2 (λ m a w=>∃x S ι,I x∧μ x=m∧Inv C S ι (λ y=>tS≤y) (dn (gx x) (dm x)) a w) ?_ (μ x0) a w ?_
     ·rintro m a w ⟨x,S,ι,Ie,rfl,hinv⟩;have:=ih _ _ _ _ (nV x Ie) S ι a w hinv;refine Exit.lQ this ?_;rintro a' w' ⟨g',cr,QL,S',ι',⟨x',σ,LK,iU,hc⟩,kH⟩;obtain⟨ι2,vH⟩:=kH.vO hc;grind
     ·obtain⟨ι2,vH⟩:=hinv.vO xo;grind
    |rangeFunc zf ps assign body=>
     simp only at h;obtain⟨um,hR⟩:=h;simp only[Yi,Bool.not_eq_true']at um;obtain⟨yU,Bv⟩:=hr um.1;subst yU;refine XS Bv ?_ ?_ hR hinv
     ·intro C' lo b κ g1 wY wZ l hN hG hM hx S1 ι1 a1 w1 ln;have:=ihA (r:=some l) (C:=C') (fin:=λ _ _=>False) (B:=λ _ _ _=>False) (λ h=>by simp_all) (λ _ _ _ _ h=>h.elim) [.code (bif b then body else assign),.stop κ] g1 wY wZ
       (by simp_all) S1 ι1 a1 w1 ln
      exact this
     ·intro D g1 wY wZ hk hO S1 ι1 a1 w1 ln;rw[JV (C':=C.fV D) um.2];exact ihA (r:=none) (C:=C.fV D) (λ h=>by simp[Cx.fV]at h) (λ C' G8=>by
       cases G8 with
       |refl=>exact j8 _ (.fV D um.1 hO)
       |fV D' h' _=>simp[Cx.fV]at h') k g1 wY wZ hk S1 ι1 a1 w1 ln
    |_=>grind
theorem Inv.fill{C:Cx}{S:Nat→Prop}{w:World}{ι:bp}{un:Nat→Prop}{f:FS}{a:Act}(h:Inv C S ι un f a w){o z:Nat}{fs:List (AV×List (List AV))}{i q:Nat}{k:AV}{rs:List (List AV)}
 (ho:f.os o=some (.cw z fs (some (i,q)))) (hq:f.os q=some (.rows true rs)) (hi:fs[i]? =some (k,rs)) (hl:∀row∈rs,row.length=z) (hz:0<z) (iF:q≠o):
 Inv C S ι un {f with os:=bw f.os [(o,some (.cw z fs none)),(q,none)]} a w:=by
 obtain⟨l,xs,clock,jP,kI,cS,hF⟩:=h.ob o _ ho;have pR:i<xs.size:=by rw[←hF.1];exact fD hi
 obtain⟨x0,iZ⟩:∃x0,xs[i]? =some x0:=⟨_,W6 pR⟩;obtain⟨hV,zc⟩:=iX.of hz hl ((hF.2.1 i _ x0 hi iZ).2.2 q rfl) (h.ob q _ hq);have G6:∀b,gn x0.val=some b→b≠l.bB:=λ b hb e=>by
  obtain⟨lq,HC,kN⟩:=zc b hb;exact iF (h.inj q o _ _ hq ho rfl rfl lq l HC jP b (.inl kN) (.inl e))
 have nh:∀j,j≠i→(some (i,q):Option (Nat×Nat)).map (·.1)≠some j:=λ j hj=>by
  grind
 have Ly:∀(j:Nat) x b,xs[j]? =some x→j≠i→gn x.val=some b→gn x0.val=some b→False:=λ j x b hx hj hv uf=>by
  obtain⟨lq,HC,kN⟩:=zc b uf;exact iF (h.inj q o _ _ hq ho rfl rfl lq l HC jP b (.inl kN) (Ft kI hx (nh j hj) hv))
 have:=h.rW ho jP kI cS (cK:=clock) (dO:=fs) (V:=[q]) (by grind) (λ j x hx=>?_) (λ w' hw nX=>⟨hF.1,λ j e x he hx=>?_,λ j j' x x' b hx mL _ _ hv DX=>?_⟩)
 ·have rD:({w with heap:=w.heap.setIfInBounds l.bB (.map xs clock)}:World)=w:=by
   have:w.heap.setIfInBounds l.bB (.map xs clock)=w.heap:=by
    apply Array.ext_getElem?;intro b;by_cases hb:b=l.bB
    ·grind
    ·grind
   rw[this]
  simp_all
 ·by_cases hj:j=i
  ·subst hj;rw[iZ]at hx;injection hx with hx;subst hx;right;intro b hb;obtain⟨lq,h1,h2⟩:=zc b hb;exact⟨q,lq,_,by simp,hq,rfl,h1,h2⟩
  grind
 ·obtain⟨g1,g2,g3⟩:=hF.2.1 j e x he hx;refine⟨g1.mono (λ _ h=>h) hw,λ _=>?_,λ q hq=>by cases hq⟩
  by_cases hj:j=i
  ·subst hj;rw[iZ]at hx;injection hx with hx;subst hx;rw[hi]at he;injection he with he;subst he;exact hV.mono (λ _ h=>h) hw (λ b hb=>nX b (G6 b hb))
  ·exact(g2 (nh j hj)).mono (λ _ h=>h) hw (λ b hb=>nX b (hF.nQ kI hx (nh j hj) hb))
 ·by_cases hj:j=i<;>by_cases sS:j'=i
  ·omega
  ·grind
  ·grind
  ·exact hF.2.2 j j' x x' b hx mL (nh j hj) (nh j' sS) hv DX
def KG:Option AO→AO→Prop
 |some a,b=>gO a b
 |none,_=>False
theorem KG.get{x:Option AO}{b:AO}(h:KG x b):∃a,x=some a∧gO a b:=by
 cases x with
 |none=>exact h.elim
 |some a=>exact⟨a,rfl,h⟩
def vz(os:Os)(σ:Nat→Nat):Nat→Gr→Prop
 |_,[]=>True
 |k,(_,g)::r=>KG (lk os (σ k)) (dq σ g.ao)∧vz os σ (k+1) r
theorem AT{os:Os}{σ:Nat→Nat}{k:Nat}{p:bL}{g:GO}{r:Gr}(a:AO)(h1:lk os (σ k)=some a)(h2:gO a (dq σ g.ao))(h3:vz os σ (k+1) r):vz os σ k ((p,g)::r):=
 ⟨by rw[h1];exact h2,h3⟩
theorem AS{os:Os}{σ:Nat→Nat}{k:Nat}:vz os σ k []:=trivial
theorem dB{α:Type}{b:Bool}{X:Option α}{r:α}(h:cond b X none=some r):b=true∧X=some r:=by grind
theorem Ek{α β R:Type}{X:Option (α⊕β)}{F:Option R}{D:α→Option R}{U:β→Option R}{r:R}{A:Prop}(h:Option.elim X F (λ x=>Sum.elim D U x)=some r)
 (h0:X=none→F=some r→A) (h1:∀d,X=some (.inl d)→D d=some r→A) (h2:∀u,X=some (.inr u)→U u=some r→A):A:=by
 match X,h,h0,h1,h2 with
 |none,h,h0,_,_=>simp_all
 |some (.inl d),h,_,h1,_=>simp_all
 |some (.inr u),h,_,_,h2=>simp_all
theorem MN{os:Os}{σ:Nat→Nat}:∀{gs:Gr} {k:Nat},vz os σ k gs→∀(j:Nat) p g,gs[j]? =some (p,g)→∃x,lk os (σ (k+j))=some x∧gO x (dq σ g.ao)
 | [],_,_,j,p,g,h=>by simp at h
 |(p0,g0)::r,k,h,j,p,g,hj=>by
  cases j with
  |zero=>
   simp only[Yv,Y5,WV]at hj;obtain⟨rfl,rfl⟩:=hj;exact h.1.get
  |succ j=>rw[show k+(j+1)=k+1+j by omega];exact MN h.2 j p g (by simp_all)
inductive jf:Os→Os→Prop
 |oZ (os:Os) (o i q:Nat) (es:List (AV×Gr)) (k:AV) (old gs:Gr) (V:bL) (os2:Os) (h1:lk os o=some (.cF es (some (i,q)))) (h2:es[i]? =some (k,old))
  (h3:(decide (V.length=gs.length)&&decide V.Nodup&&decide (o∉V)&&decide (V.getD 0 0=q))=true) (h4:vz os (λ n=>V.getD n 0) 0 gs) (h5:(kD gs&&vU gs 0 gs&&nR gs.length gs)=true)
  (h:jf (ia os ((o,some (.cF (es.set i (k,gs)) none))::V.map λ q=>(q,none))) os2):jf os os2
 |refl (os:Os):jf os os
 |step (os:Os) (o z:Nat) (fs:List (AV×List (List AV))) (i q:Nat) (k:AV) (rs:List (List AV)) (os2:Os) (h1:lk os o=some (.cw z fs (some (i,q)))) (h2:lk os q=some (.rows true rs))
  (h3:fs[i]? =some (k,rs)) (h4:∀row∈rs,row.length=z) (h5:(decide (0<z)&&decide (q≠o))=true) (h:jf (ia os [(o,some (.cw z fs none)),(q,none)]) os2):jf os os2
theorem Inv.rZ{C:Cx}{S:Nat→Prop}{w:World}{ι:bp}{un:Nat→Prop}{g:Tm}{os os2:Os}(hF:jf os os2){a:Act}(h:Inv C S ι un (dn g os) a w):Inv C S ι un (dn g os2) a w:=by
 induction hF with
 |refl os=>exact h
 |oZ os o i q es k old gs V os2 h1 h2 h3 h4 h5 _ ih=>
  simp only[Yi,YB]at h3;refine ih ?_;have:=h.BK h1 h2 h3.1.1.1 h3.1.1.2 h3.1.2 h3.2 (λ j p g hj=>by have:=MN h4 j p g hj;rw[Wf]at this;exact this) h5
  unfold dn at this⊢;rw[B8];exact this
 |step os o z fs i q k rs os2 h1 h2 h3 h4 h5 _ ih=>
  simp only[Yi,YB]at h5;refine ih ?_;have:=h.fill h1 h2 h3 h4 h5.1 h5.2;unfold dn at this⊢;rw[B8];exact this
theorem Cd{α:Type}{l:List α}{k:Nat}{z:α}(h:l[k]? =some z):l.drop k=z::l.drop (k+1):=by
 have hk:=fD h;rw[Wv hk];simp_all
theorem Nx{α:Type}(l:List α):l.reverse.drop l.length=[]:=by simp
theorem both{b:Bool}{A:Prop}(t:b=true→A)(f:b=false→A):A:=by grind
def eD{κ ν:Type}(ek:κ→AV)(en:ν→List AV)(L:List (κ×List ν)):List (AV×List (List AV)):=L.map λ p=>(ek p.1,p.2.map en)
def fI{κ ν:Type}(ek:κ→AV)(gN:ν→Gr)(L:List (κ×ν)):List (AV×Gr):=L.map λ p=>(ek p.1,gN p.2)
def ei{κ ν:Type}[DecidableEq κ](q:κ):List (κ×ν)→List (κ×ν)
 | []=>[]
 |e::r=>if q=e.1 then r else e::ei q r
section
variable {P:Program}{t kt:TypeId}{κ ν:Type}[DecidableEq κ]{ek:κ→AV}{en:ν→List AV}
omit [DecidableEq κ]in
theorem ZqT(L:List (κ×List ν)):fy (eD ek en L)=fH ek (λ _:List ν=>AV.undef) L:=by simp[fy,eD,fH]
theorem findF(heq:∀a b,dE P kt (ek a) (ek b)=some (decide (a=b)))(q:κ)(L:List (κ×List ν)):gM P kt (ek q) (fy (eD ek en L)) 0 (mix q L):=by
 have h1:=zt (en:=λ _:List ν=>AV.undef) heq q L 0;rw[show(λ x:Nat=>x+0)=id from rfl,Uc,id]at h1
 rw[ZqT];exact h1
theorem Ce{q:κ}{L:List (κ×List ν)}(h:(az q L).isSome=true):mix q L=some ((mix q L).getD 0)∧∃k,(eD ek en L)[(mix q L).getD 0]? =some (k,((az q L).getD []).map en):=by
 rcases v7 q L with ⟨_,h3⟩|⟨j,e,h2,h3,h4⟩
 ·simp_all
 ·refine⟨by grind,ek e.1,?_⟩
  rw[h2,h4];simp[eD,h3]
theorem XI{q:κ}{L:List (κ×List ν)}(h:(az q L).isSome=false):mix q L=none:=by
 rcases v7 q L with ⟨h2,_⟩|⟨j,e,_,_,h4⟩
 all_goals simp_all
theorem M'(q:κ)(x:List ν):∀(L:List (κ×List ν)),jo (eD ek en L) (mix q L) (ek q) (x.map en)=eD ek en (bW q x L)
 | []=>rfl
 |e::r=>by
  by_cases h:q=e.1
  ·simp[mix,h,jo,eD,bW]
  ·have:=M' q x r;simp only[mix,h,Ym,bW];cases hm:mix q r with
   |none=>rw[hm]at this;simp only[jo,V8,eD,Yy,YC]at this⊢;rw[this]
   |some j=>rw[hm]at this;simp only[jo,YE,eD,Yy,List.set_cons_succ]at this⊢;rw[this]
theorem Nw(q:κ):∀(L:List (κ×List ν)),lD (eD ek en L) (mix q L)=eD ek en (ei q L)
 | []=>rfl
 |e::r=>by
  by_cases h:q=e.1
  ·simp[mix,h,lD,eD,ei]
  ·have:=Nw q r;simp only[mix,h,Ym,ei];cases hm:mix q r with
   |none=>rw[hm]at this;simp only[lD,V8,eD,Yy]at this⊢;rw[this]
   |some j=>rw[hm]at this;simp only[lD,YE,eD,Yy,List.eraseIdx_cons_succ]at this⊢;rw[this]
theorem ZqS{α β:Type}{ek:α→AV}{gN:β→Gr}(L:List (α×β)):gB (fI ek gN L)=fH ek (λ _:β=>AV.undef) L:=by simp[gB,fI,fH]
theorem Mi{q:κ}{L:List (κ×ν)}(h:az q L=none):mix q L=none:=by
 rcases v7 q L with ⟨h2,_⟩|⟨j,e,_,_,h4⟩
 all_goals simp_all
theorem pb{gN:ν→Gr}(heq:∀a b,dE P kt (ek a) (ek b)=some (decide (a=b)))(q:κ)(L:List (κ×ν)):gM P kt (ek q) (gB (fI ek gN L)) 0 (mix q L):=by
 have h1:=zt (en:=λ _:ν=>AV.undef) heq q L 0;rw[show(λ x:Nat=>x+0)=id from rfl,Uc,id]at h1
 rw[ZqS];exact h1
theorem Ik{gN:ν→Gr}{q:κ}{L:List (κ×ν)}{x:ν}(h:az q L=some x):mix q L=some ((mix q L).getD 0)∧∃k,(fI ek gN L)[(mix q L).getD 0]? =some (k,gN x):=by
 rcases v7 q L with ⟨_,h3⟩|⟨j,e,h2,h3,h4⟩
 ·simp_all
 ·rw[h]at h4;injection h4 with h4;subst h4;refine⟨by grind,ek e.1,?_⟩
  rw[h2];simp[fI,h3]
theorem Nh{gN:ν→Gr}(q:κ)(x:ν):∀(L:List (κ×ν)),(az q L).isSome=true→∀k,(∃g,(fI ek gN L)[(mix q L).getD 0]? =some (k,g))→(fI ek gN L).set ((mix q L).getD 0) (k,gN x)=fI ek gN (bW q x L)
 | [],h,_,_=>by cases h
 |e::r,h,k,hk=>by
  by_cases hq:q=e.1
  ·simp only[mix,hq,Yz,YJ,fI,Yy,Yv,Y5,WV]at hk;obtain⟨g,rfl,_⟩:=hk;simp[mix,hq,fI,bW]
  ·have h':(az q r).isSome=true:=by simpa[az,hq]using h
   have hm:mix q r=some ((mix q r).getD 0):=by
    rcases v7 q r with ⟨h2,h3⟩|⟨j,e',h2,_,_⟩
    ·simp_all
    ·grind
   have hs:mix q (e::r)=some ((mix q r).getD 0+1):=by simp only[mix,hq,Ym];rw[hm];rfl
   rw[hs]at hk⊢;simp only[YJ,fI,Yy,Va,List.set_cons_succ,bW,hq,Ym]at hk⊢;rw[←fI,←fI,Nh q x r h' k hk]
theorem wh{gN:ν→Gr}{ok:Bool}{k:AV}{o id:Nat}{es:List (AV×Gr)}{K:AV→List (Nat×Option AO)→bL→Prop}(L:List (κ×ν))(q:κ)(x:ν)(rN:es=fI ek gN L)(hk:k=ek q)
 (heq:∀a b,dE P kt (ek a) (ek b)=some (decide (a=b))) (hs:az q L=some x) (gs:Gr) (hg:gN x=gs) (hW:Nat.ble gs.length W=true)
 (hK:K (if ok then .cx [.ptr id 0 0,.bool true]else .ptr id 0 0) (qd id (sW 0 gs)++[(o,some (.cF (fI ek gN L) (some ((mix q L).getD 0,id))))]) []):
 pF P t kt ok k o es none id K:=by
 subst rN;subst hk;subst hg;obtain⟨h1,k,h2⟩:=Ik (ek:=ek) (gN:=gN) hs;exact⟨.inl ⟨_,_,rfl,h1▸pb heq q L,h2,Ws hW,hK⟩⟩
theorem Fc{gN:ν→Gr}{ok:Bool}{k:AV}{o id qo:Nat}{es:List (AV×Gr)}{K:AV→List (Nat×Option AO)→bL→Prop}(L:List (κ×ν))(q q':κ)(rN:es=fI ek gN L)(hk:k=ek q)
 (heq:∀a b,dE P kt (ek a) (ek b)=some (decide (a=b))) (Hj:(decide (q=q')&&(az q' L).isSome)=true)
 (hK:K (if ok then .cx [.ptr qo 0 0,.bool true]else .ptr qo 0 0) [] [o]):
 pF P t kt ok k o es (some ((mix q' L).getD 0,qo)) id K:=by
 subst rN;subst hk;rw[Yi]at Hj;obtain rfl:=YM Hj.1;obtain⟨x,hx⟩:=Wj.1 Hj.2;exact⟨.inr (.inl ⟨_,_,rfl,(Ik (ek:=ek) (gN:=gN) hx).1▸pb heq q L,hK⟩)⟩
theorem Fi{gN:ν→Gr}{ok:Bool}{k:AV}{o id:Nat}{es:List (AV×Gr)}{h:Option (Nat×Nat)}{K:AV→List (Nat×Option AO)→bL→Prop}(L:List (κ×ν))(q:κ)(v:AV)(rN:es=fI ek gN L)(hk:k=ek q)
 (heq:∀a b,dE P kt (ek a) (ek b)=some (decide (a=b))) (hs:az q L=none) (hz:∃vt zv,gT P t=some vt∧zeroV P vt=some zv∧Wk zv v)
 (hK:K (if ok then .cx [v,.bool false]else v) [] [o]):pF P t kt ok k o es h id K:=by
 subst rN;subst hk;have h1:mix q L=none:=Mi hs;exact⟨.inr (.inr ⟨v,h1▸pb heq q L,hz,hK⟩)⟩
theorem xL{q:κ}{x:ν}:∀{L:List (κ×ν)},az q L=none→bW q x L=L++[(q,x)]∧mix q (L++[(q,x)])=some L.length
 | [],_=>⟨rfl,by simp[mix]⟩
 |e::r,h=>by
  by_cases hq:q=e.1
  ·simp[az,hq]at h
  ·simp only[az,hq,Ym]at h;obtain⟨h1,h2⟩:=xL (x:=x) h;exact⟨by simp only[bW,hq,Ym,h1,YC],by simp only[YC,mix,hq,Ym,h2,YE,Yh]⟩
theorem Mg{gN:ν→Gr}{k v:AV}{o:Nat}{es:List (AV×Gr)}{K:List (Nat×Option AO)→Prop}(L:List (κ×ν))(q:κ)(x:ν)(qo:Nat)(rN:es=fI ek gN L)(hk:k=ek q)
 (heq:∀a b,dE P kt (ek a) (ek b)=some (decide (a=b))) (hs:(!(az q L).isSome&&Nat.blt L.length bI)=true) (hv:v=.ptr qo 0 0)
 (hK:K [(o,some (.cF (fI ek gN (bW q x L)) (some ((mix q (bW q x L)).getD 0,qo))))]):yM P kt k v o es none K:=by
 subst rN;subst hk;rw[Yi]at hs;have hl:L.length+1≤bI:=Ws hs.2;have hs:az q L=none:=by
  have:=hs.1;cases h:az q L with
  |none=>rfl
  |some y=>simp_all
 obtain⟨h1,h2⟩:=xL (x:=x) hs;refine⟨qo,gN x,rfl,?_,by simpa[fI]using hl,hv,?_⟩
 ·have:=pb (gN:=gN) heq q L;have h3:mix q L=none:=Mi hs;simp_all
 ·rw[h1,h2]at hK;simpa[fI]using hK
theorem Xt{gN:ν→Gr}{os os2:Os}{o qo:Nat}(L:List (κ×ν))(q:κ)(x:ν)(V:bL)(gs:Gr)(h1:lk os o=some (.cF (fI ek gN L) (some ((mix q L).getD 0,qo))))(hs:(az q L).isSome=true)(hg:gN x=gs)
 (h3:(decide (V.length=gs.length)&&decide V.Nodup&&decide (o∉V)&&decide (V.getD 0 0=qo))=true) (h4:vz os (λ n=>V.getD n 0) 0 gs) (h5:(kD gs&&vU gs 0 gs&&nR gs.length gs)=true)
 (h:jf (ia os ((o,some (.cF (fI ek gN (bW q x L)) none))::V.map λ q=>(q,none))) os2):jf os os2:=by
 subst hg;obtain⟨y,hy⟩:=Wj.1 hs;obtain⟨_,k,h2⟩:=Ik (ek:=ek) (gN:=gN) hy;refine .oZ os o _ qo _ k _ (gN x) V os2 h1 h2 h3 h4 h5 ?_;rw[Nh q x L hs k ⟨_,h2⟩];exact h
theorem Oh{en:ν→AV}(q:κ):∀(L:List (κ×ν)),lE (fH ek en L) (mix q L)=fH ek en (ei q L)
 | []=>rfl
 |e::r=>by
  by_cases h:q=e.1
  ·simp[mix,h,lE,fH,ei]
  ·have:=Oh (en:=en) q r;simp only[mix,h,Ym,ei];cases hm:mix q r with
   |none=>rw[hm]at this;simp only[lE,V8,fH,Yy]at this⊢;rw[this]
   |some j=>rw[hm]at this;simp only[lE,YE,fH,Yy,List.eraseIdx_cons_succ]at this⊢;rw[this]
theorem TG{en:ν→AV}{es:List (AV×AV)}{k:AV}{p:Bool}{K:AO→Prop}(L:List (κ×ν))(q:κ)(rN:es=fH ek en L)(hk:k=ek q)
 (heq:∀a b,dE P kt (ek a) (ek b)=some (decide (a=b))) (hK:K (.bm p (fH ek en (ei q L)))):DD P kt es k p K:=by
 subst rN;subst hk;have h1:=zt (en:=en) heq q L 0;rw[show(λ x:Nat=>x+0)=id from rfl,Uc,id]at h1
 exact⟨_,h1,by rw[Oh];exact hK⟩
theorem zx{ok:Bool}{k:AV}{o z id:Nat}{fs:List (AV×List (List AV))}{K:AV→List (Nat×Option AO)→bL→Prop}(L:List (κ×List ν))(q:κ)(uu:fs=eD ek en L)(hk:k=ek q)
 (heq:∀a b,dE P kt (ek a) (ek b)=some (decide (a=b))) (hs:(az q L).isSome=true)
 (hK:K (if ok then .cx [.bf id z,.bool true]else .bf id z) [(id,some (.rows true (((az q L).getD []).map en))),(o,some (.cw z (eD ek en L) (some ((mix q L).getD 0,id))))] []):
 pG P t kt ok k o z fs none id K:=by
 subst uu;subst hk;obtain⟨h1,k,h2⟩:=Ce (ek:=ek) (en:=en) hs;exact⟨.inl ⟨_,_,rfl,h1▸findF heq q L,h2,hK⟩⟩
theorem zw{ok:Bool}{k:AV}{o z id:Nat}{fs:List (AV×List (List AV))}{h:Option (Nat×Nat)}{K:AV→List (Nat×Option AO)→bL→Prop}(L:List (κ×List ν))(q:κ)(v:AV)(uu:fs=eD ek en L)(hk:k=ek q)
 (heq:∀a b,dE P kt (ek a) (ek b)=some (decide (a=b))) (hs:(az q L).isSome=false) (hz:∃vt zv,gT P t=some vt∧zeroV P vt=some zv∧Wk zv v)
 (hK:K (if ok then .cx [v,.bool false]else v) [] [o]):pG P t kt ok k o z fs h id K:=by
 subst uu;subst hk;exact⟨.inr (.inr ⟨v,XI hs▸findF heq q L,hz,hK⟩)⟩
theorem Zpt{k:AV}{o z id:Nat}{fs:List (AV×List (List AV))}{h:Option (Nat×Nat)}{K:AV→List (Nat×Option AO)→bL→Prop}(L:List (κ×List ν))(q:κ)(uu:fs=eD ek en L)(hk:k=ek q)
 (heq:∀a b,dE P kt (ek a) (ek b)=some (decide (a=b))) (hz:∃vt zv,gT P t=some vt∧zeroV P vt=some zv)
 (hK:K (.cx [.undef,.bool (az q L).isSome]) [] [o]):pG P t kt true k o z fs h id K:=by
 subst uu;subst hk;refine⟨.inr (.inl ⟨mix q L,rfl,findF heq q L,hz,?_⟩)⟩;have:(mix q L).isSome=(az q L).isSome:=by
  rcases v7 q L with ⟨h2,h3⟩|⟨j,e,h2,h3,h4⟩
  ·simp_all
  ·simp_all
 simp_all
theorem xC{k v:AV}{o z:Nat}{fs:List (AV×List (List AV))}{h:Option (Nat×Nat)}{ol:Nat→Option AO}{K:List (Nat×Option AO)→Prop}(L:List (κ×List ν))(q:κ)(x:List ν)(qo:Nat)(uu:fs=eD ek en L)(hk:k=ek q)
 (heq:∀a b,dE P kt (ek a) (ek b)=some (decide (a=b))) (hh:h=none∨((az q L).isSome=true∧h.map (·.1)=some ((mix q L).getD 0))) (hl:L.length+1≤bI) (hv:v=.bf qo z) (rs:List (List AV)) (Rp:ol qo=some (.rows true rs))
 (nU:rs=x.map en) (hw:∀y,(en y).length=z) (hz:(decide (0<z)&&decide (qo≠o))=true) (hK:K [(o,some (.cw z (eD ek en (bW q x L)) none)),(qo,none)]):yN P kt k v o z fs h ol K:=by
 subst uu;subst hk;subst nU;simp only[Yi,YB]at hz;refine⟨mix q L,qo,_,findF heq q L,?_,by simpa[eD]using hl,hv,Rp,λ row hr=>?_,hz.1,hz.2,by rw[M'];exact hK⟩
 ·rcases hh with rfl|⟨h1,h2⟩
  ·exact .inl rfl
  ·cases h with
   |none=>cases h2
   |some e=>
    obtain⟨i,q0⟩:=e;simp only[YE,Y5]at h2;exact .inr ⟨i,q0,rfl,by rw[(Ce (ek:=ek) (en:=en) h1).1,h2]⟩
 grind
theorem Me{k:AV}{o z:Nat}{fs:List (AV×List (List AV))}{h:Option (Nat×Nat)}{K:List (Nat×Option AO)→Prop}(L:List (κ×List ν))(q:κ)(uu:fs=eD ek en L)(hk:k=ek q)
 (heq:∀a b,dE P kt (ek a) (ek b)=some (decide (a=b))) (hh:h=none∨((az q L).isSome=true∧h.map (·.1)=some ((mix q L).getD 0)))
 (hK:K [(o,some (.cw z (eD ek en (ei q L)) none))]):DF P kt k o z fs h K:=by
 subst uu;subst hk;refine⟨mix q L,findF heq q L,?_,by rw[Nw];exact hK⟩
 rcases hh with rfl|⟨h1,h2⟩
 ·exact .inl rfl
 ·cases h with
  |none=>cases h2
  |some e=>
   obtain⟨i,q0⟩:=e;simp only[YE,Y5]at h2;exact .inr ⟨i,q0,rfl,by rw[(Ce (ek:=ek) (en:=en) h1).1,h2]⟩
end
section
variable {G:eo}{P:Program}{args:List AV}{f:Nat}{fn:Func}{os cr:Os}{rv:AV}
def iw:List AV→Nat→Tm
 | [],_=>[]
 |x::r,i=>(i,x)::iw r (i+1)
def mj(P:Program)(g:Tm)(os:Os):List ResultVar→Option (List AV)
 | []=>some []
 |.tmp t::r=>(mj P g os r).map (cO g t:: ·)
 |.cell a t::r=>match cO g a with
  |.ptr o i c=>match jc (lk os) o with
   |some rs=>match rs[i]? with
    |some row=>match ot P t row c with
     |some v=>(mj P g os r).map (v:: ·)
     |none=>none
    |none=>none
   |none=>none
  |_=>none
def one(l:List AV):AV:=
 match l with
 | [v]=>v
 |l=>.cx l
def uB(P:Program)(rs:List ResultVar)(Qr:AV→Prop)(g:Tm)(os:Os):Prop:=
 opt (mj P g os rs) λ vs=>opt (gi (os.map (·.1)) (lk os) 8 (one vs)) λ rv=>iK rv λ rv=>Qr rv
theorem ZpH:∀(l:List AV) (i t:Nat),cO (iw l i) t=if i≤t∧t<i+l.length then l.getD (t-i) .undef else .undef:=by
 intro l;induction l with
 |nil=>intro i t;simp[iw,cO]
 |cons x r ih=>
  intro i t;simp only[iw,cO];grind
theorem TR{C:Cx}{S:Nat→Prop}{ι:bp}{un:Nat→Prop}{g:Tm}{a:Act}{w:World}(h:Inv C S ι un (dn g os) a w):
 ∀(rs:List ResultVar) (vs:List AV),mj P g os rs=some vs→
  ∃us:List Value,(rs.mapM (λ r=>match r with|.tmp t=>pure (a.tmps.getD t undef)|.cell x t=>do loadVar t (←asAddr (a.tmps.getD x undef)):ResultVar→Sem Value)).run P w=.ok us w∧
   bA S w ι vs us:=by
 intro rs;induction rs with
 |nil=>intro vs hv;simp only[mj,Y5]at hv;subst hv;exact⟨[],rfl,.nil⟩
 |cons r rs ih=>
  intro vs hv;cases r with
  |tmp t=>
   simp only[mj,Yq]at hv;obtain⟨Gq,h1,rfl⟩:=hv;obtain⟨us,h2,h3⟩:=ih Gq h1;refine⟨a.tmps.getD t undef::us,?_,bA.cons (h.tm t) h3⟩;simp_all
  |cell x t=>
   simp only[mj]at hv;split at hv
   ·rename_i o i c hx;split at hv
    ·rename_i rws hr;split at hv
     ·rename_i row fY;split at hv
      ·rename_i v hl;simp only[Yq]at hv;obtain⟨Gq,h1,rfl⟩:=hv;obtain⟨us,h2,h3⟩:=ih Gq h1;have ht:=h.tm x;rw[show(dn g os).g x=cO g x from rfl,hx]at ht
       obtain⟨l,qB,hv⟩:=ht.dF;obtain⟨y,hy,uc⟩:=xU hr;rcases zn (h.ob o y hy) uc with ⟨q,rfl⟩|⟨l',bc,q,fw,eY,du⟩
       ·grind
       ·rw[q]at qB;injection qB with qB;injection qB with qB;subst qB;have hi:=fD fY;obtain⟨v',h4,h5⟩:=Fe (P:=P) (b0:=l'.base+i*l'.bX) (du _ _ fY) (λ j v hv=>by
         have:=eY.2.2 i j v hi hv;rw[←WW]at this;exact this) hl
        refine⟨v'::us,?_,bA.cons h5 h3⟩;rw[←WW]at hv;have ha:(asAddr (a.tmps.getD x undef)).run P w=.ok ⟨l'.bB,l'.base+i*l'.bX+c,none⟩ w:=by rw[hv];rfl
        simp_all
      grind
     grind
    grind
   grind
theorem J0{C:Cx}{S:Nat→Prop}{ι:bp}{un:Nat→Prop}{g:Tm}{a:Act}{w:World}(h:Inv C S ι un (dn g os) a w)
 {vs:List AV} (hv:mj P g os fn.results.toList=some vs):∃v,(results fn a.tmps).run P w=.ok v w∧cz S w ι (one vs) v:=by
 obtain⟨us,h1,h2⟩:=TR (P:=P) h fn.results.toList vs hv;have xa:(results fn a.tmps).run P w=.ok (if h:us.toArray.size=1 then us.toArray[0]else .tuple us.toArray) w:=by
  unfold results;rw[Yc,Array.mapM_eq_mapM_toList];simp only[Sem.run_map];generalize hX:Sem.run P (List.mapM _ fn.results.toList) w=X;have:X=.ok us w:=by rw[←hX];exact h1
  rw[this];simp only[Y6,Yd]
 refine⟨_,xa,?_⟩;have hlen:=h2.1;unfold one;split
 ·rename_i v;have:us.length=1:=by rw[←hlen];rfl
  obtain⟨u,rfl⟩:=List.length_eq_one_iff.1 this;simp only[List.size_toArray,W9,dite_true];exact h2.2 0 v u rfl rfl
 ·rename_i iF;have:us.length≠1:=by
   intro e;rw[←hlen]at e;obtain⟨u,rfl⟩:=List.length_eq_one_iff.1 e;exact iF u rfl
  rw[dif_neg (by omega)]
  exact bA.kz (by omega)
theorem JP{S0:Nat→Prop}{ι0:bp}{w0:World}{vs:Array Value}{cQ:Os}(fg:args.length≤fn.ntmps)
 (h0:∀b,S0 b→b<w0.heap.size) (hG:pE G S0 w0) (gm:kh (dR w0 ι0 cQ) S0 w0 ι0 (lk cQ)) (hι:∀o,cQ.length≤o→ι0 o=none) (hW:cQ.length≤W) (vI:∀j L,ι0 j=some L→j<cQ.length) (hL:bA S0 w0 ι0 args vs.toList):
 Inv ⟨G,w0,⟨0,fn.ntmps,false⟩,dR w0 ι0 cQ,S0,cQ.length,ι0,vI,λ _=>undef,[],[]⟩ S0 ι0 (λ x=>W≤x) (dn (iw args 0) cQ) {tmps:=vs++Array.replicate (fn.ntmps-vs.size) undef,defers:=[]} w0:=by
 have hlen:=hL.1;simp only[WA]at hlen;refine⟨λ t=>?_,?_,⟨rfl,λ t ht=>absurd ht (We t),λ q hq=>(by cases hq)⟩,gm.ob,gm.own,gm.inj,h0,λ b hb=>.inl hb,λ o ho=>hι o (Wh hW ho),⟨rfl,rfl,Yg _,λ b _ _=>rfl⟩,λ b hb=>.inl hb,hG,λ b hb=>hb,λ j L e=>e⟩
 ·show cz S0 w0 ι0 (cO (iw args 0) t) _;rw[ZpH];split
  ·rename_i ht;have qA:t<args.length:=by omega
   have hx:args[t]? =some args[t]:=Y3 qA;have hv:vs.toList[t]? =some vs[t]:=by simp
   have e1:args.getD (t-0) .undef=args[t]:=by simp[Wt,hx]
   have e2:(vs++Array.replicate (fn.ntmps-vs.size) undef).getD t undef=vs[t]:=by
    rw[Wi,Array.getElem?_append_left (by omega)]
    simp[show t<vs.size by omega]
   rw[e1,e2];exact hL.2 t _ _ hx hv
  ·exact .cu _ _ (.undef _)
 simp_all
theorem Ca{cQ:List (Nat×AO)}{nz:List AV}{cr:List (Nat×AO)}(hw:eZ args nz)(h:FC P G f cQ nz rv cr):FC P G f cQ args rv cr:=
 ⟨h.1,h.2.1,λ S0 ι0 w0 vs h0 hG gm hι hL=>h.2.2 S0 ι0 w0 vs h0 hG gm hι (hw.wX hL)⟩
theorem J1{C:Cx}{c:Code}{vs:Array Value}{R:Ending→World→Prop}{fin:Tm→Os→Prop}{fuel:Nat}{g:Tm}{nx:Nat}{S:Nat→Prop}{ι:bp}{w0:World}
 (hm:P.follows .mixedOrders=true) (hf:P.funcs[f]? =some fn) (hb:fn.body=some c) (hC:C.dfs=[]∧C.qb=[])
 (hinv:Inv C S ι (λ x=>nx≤x) (dn g os) {tmps:=vs++Array.replicate (fn.ntmps-vs.size) undef,defers:=[]} w0)
 (h:ep P C.G C.N C.m fin fuel [.code c] g os nx)
 (j8:∀N dfs qb,∀g os,fin g os→∀S ι un a w,Inv {C with N:=N,dfs:=dfs,qb:=qb} S ι un (dn g os) a w→∃v,(results fn a.tmps).run P w=.ok v w∧R (.returned v) w):Calls P f vs w0 R:=by
 refine callsIn_wide.1 (callsIn_of_wp_marks (F:=Fence.wide) (n:=0) hf hb trivial ?_);refine Zn5 (r:=none) (B:=bodyPostM Fence.wide 0 P fn R) hm fuel (λ _=>⟨rfl,hC⟩) ?_ [.code c] _ _ _ h S ι _ w0 hinv;intro C' G8 g os Bq S ι un a w hi
 have key:LeavesInM Fence.wide 0 P fn a.tmps R a.defers .returning w:=by
  cases G8 with
  |refl=>
   rw[hi.df.1,hC.1];exact j8 C.N C.dfs C.qb g os Bq S ι un a w hi
  |fV D um hO=>
   have hd:a.defers=[mark D]:=hi.df.1;obtain⟨hS,hD⟩:=hi.df.2.2 (D,.deferred (some [])) (by simp[Cx.fV])
   have iV:=hi.tN (o':=.deferred none) (a':=a) (dfs:=a.defers) (qb:=[]) hS hO hD rfl rfl rfl rfl (λ q hq=>by cases hq)
   rw[hd];refine⟨by simp,.inl ⟨D,_,rfl,run_takeDeferred hD,?_⟩⟩
   exact j8 _ a.defers [] g os Bq S ι un a _ iV
 exact⟨key,key⟩
theorem DG{c:Code}(fuel:Nat)(hf:P.funcs[f]? =some fn)(hb:fn.body=some c)
 (hn:fe P f=true) (hm:P.follows .mixedOrders=true) (fg:args.length≤fn.ntmps)
 (h:ep P G ⟨0,fn.ntmps,false⟩ 0 (uB P fn.results.toList λ r=>r=rv) fuel [.code c] (iw args 0) [] W):FC P G f [] args rv []:=by
 refine⟨hn,λ o x hx=>by simp[lk]at hx,λ S0 ι0 w0 vs h0 hG gm hι hL=>?_⟩
 have vI:∀j L,ι0 j=some L→j<([]:Os).length:=λ j L e=>by simp_all
 have hinv:=JP (fn:=fn) fg h0 hG gm hι (YL _) vI hL;refine J1 hm hf hb ⟨rfl,rfl⟩ hinv h ?_;intro N dfs qb g os j8 S ι un a w hi;obtain⟨rs,nU,h2⟩:=bN j8;obtain⟨DO,A7,h3⟩:=bN h2;rw[lY]at h3;subst h3;obtain⟨v,iR,jX⟩:=J0 (P:=P) hi nU;have iG:=xZ hi.ob 8 _ _ _ jX A7;have hR:∃v' S' ι',Ending.returned v=.returned v'∧Fr (dR w0 ι0 []) w0 w∧(∀b,S' b→(S0 b∨dR w0 ι0 [] b)∧b<w.heap.size)∧(∀b,S0 b→S' b)∧ι0.le ι'∧
  (∀o,W≤o→ι' o=none)∧cz S' w ι' DO v'∧kh (dR w0 ι0 []) S' w ι' (lk []):=by
  refine⟨v,SV S ι (dn g os).os (os.map (·.1)),ι0,rfl,hi.fr,λ b hb=>⟨?_,nE hi _ b hb⟩,?_,bp.le_refl _,λ o _=>hι o (YL _),.cu _ _ iG,
   ⟨λ o x hx=>by simp[lk]at hx,λ o x hx=>by simp_all,λ o o' x x' hx=>by simp_all⟩⟩
  ·rcases hb with hb|⟨o,x,l,_,hx,hl,rfl⟩
   ·exact hi.sn b hb
   ·by_cases ng:x.live=true
    ·exact .inr (hi.own o x hx ng l hl _ (.inl rfl)).1
    ·have nY:=hi.ob o x hx;cases x with
     |dD rs=>
      rcases nY with ⟨q,_⟩|⟨l',bc,q,_,hS,_⟩
      ·simp_all
      ·rw[q]at hl;injection hl with hl;injection hl with hl;subst hl;exact hi.sn _ hS
     |rows p rs=>exact absurd rfl ng
     |bm p es=>exact absurd rfl ng
     |cw z fs hh=>exact absurd rfl ng
     |cF es hh=>exact absurd rfl ng
     |lit rs=>exact absurd rfl ng
  ·exact λ b hb=>.inl (hi.s0 b hb)
 simp_all
def BN(P:Program)(rs:List ResultVar)(_m:Nat)(Qr:AV→Os→Prop)(g:Tm)(os:Os):Prop:=
 opt (mj P g os rs) λ vs=>iK (one vs) λ v=>fO os λ os=>Qr v os
structure jD(m:Nat)(rv:AV)(cr:Os)(v:AV)(os:Os):Prop where
 h:∃os2 σ,jf os os2∧kx m [(0,v)] os2 σ [(0,rv)] cr W
theorem lH{m:Nat}{v:AV}(σ:List (Nat×Nat))(h2:cY (ap σ) rv=v)
 (h3:cr.map (λ e=>some (dq (ap σ) e.2))=cr.map λ e=>lk os (ap σ e.1))
 (h1:(fu W rv&&cr.all (λ e=>decide (e.1<W)&&dt W e.2)&&decide ((cr.map λ e=>ap σ e.1).Nodup)&&decide (m≤W)&&(List.range m).all (λ j=>ap σ j==j))=true):
 jD m rv cr v os:=⟨os,σ,.refl os,by grind,.of_eq (by simp[cO,h2]),.of_eq h3⟩
theorem Tz{m:Nat}{v:AV}(σ:List (Nat×Nat))(h2:Wk v (cY (ap σ) rv))
 (h3:dP (cr.map λ e=>lk os (ap σ e.1)) (cr.map λ e=>some (dq (ap σ) e.2)))
 (h1:(fu W rv&&cr.all (λ e=>decide (e.1<W)&&dt W e.2)&&decide ((cr.map λ e=>ap σ e.1).Nodup)&&decide (m≤W)&&(List.range m).all (λ j=>ap σ j==j))=true):
 jD m rv cr v os:=⟨os,σ,.refl os,by grind,by simpa[cO,eZ]using h2,h3⟩
theorem Iz{m:Nat}{v:AV}{os2:Os}(hF:jf os os2)(h:jD m rv cr v os2):jD m rv cr v os:=by
 obtain⟨GH,σ,h1,h2⟩:=h.h;refine⟨GH,σ,?_,h2⟩;clear h2 h;induction hF with
 |refl=>exact h1
 |step os o z fs i q k rs os2 g1 g2 g3 g4 g5 _ ih=>exact .step os o z fs i q k rs GH g1 g2 g3 g4 g5 (ih h1)
 |oZ os o i q es k old gs V os2 g1 g2 g3 g4 g5 _ ih=>exact .oZ os o i q es k old gs V GH g1 g2 g3 g4 g5 (ih h1)
theorem mR{c:Code}{cQ:Os}(fuel:Nat)(hf:P.funcs[f]? =some fn)(hb:fn.body=some c)
 (hn:fe P f=true) (hm:P.follows .mixedOrders=true) (fg:args.length≤fn.ntmps) (n0:cQ.length≤W) (Bg:(cr.all λ e=>decide (e.1<W))=true)
 (h:ep P G ⟨0,fn.ntmps,false⟩ cQ.length (BN P fn.results.toList cQ.length (jD cQ.length rv cr)) fuel [.code c] (iw args 0) cQ W):FC P G f cQ args rv cr:=by
 refine⟨hn,λ o x hx=>?_,λ S0 ι0 w0 vs h0 hG gm hι hL=>?_⟩
 ·have:=YW.1 Bg _ (uJ hx);simp_all
 have vI:∀j L,ι0 j=some L→j<cQ.length:=λ j L e=>by
  grind
 have hinv:=JP (fn:=fn) fg h0 hG gm hι n0 vI hL;refine J1 hm hf hb ⟨rfl,rfl⟩ hinv h ?_;intro N dfs qb g os j8 S ι un a w hi;obtain⟨rs,nU,h2⟩:=bN j8;rw[lY,r7]at h2;obtain⟨os2,σ,oc,hc⟩:=h2;obtain⟨v,iR,jX⟩:=J0 (P:=P) hi nU;let C':Cx:=⟨G,w0,⟨0,1,false⟩,dR w0 ι0 cQ,S0,cQ.length,ι0,vI,λ _=>undef,[],[]⟩;have pS:Inv C' S ι un (dn [(0,one rs)] os) {tmps:=#[v],defers:=[]} w:=by
  refine⟨λ t=>?_,rfl,⟨rfl,λ t ht=>absurd ht (We t),λ q hq=>(by cases hq)⟩,hi.ob,hi.own,hi.inj,hi.sb,hi.sn,hi.un,hi.fr,hi.fo,hi.gv,hi.s0,hi.hj⟩
  cases t with
  |zero=>exact jX
  |succ t=>exact .cu _ _ (.undef _)
 obtain⟨ι2,iV⟩:=(Inv.rZ oc pS).vO hc;have A7:cz S w ι2 rv v:=iV.tm 0;have hR:∃v' S' ι',Ending.returned v=.returned v'∧Fr (dR w0 ι0 cQ) w0 w∧(∀b,S' b→(S0 b∨dR w0 ι0 cQ b)∧b<w.heap.size)∧(∀b,S0 b→S' b)∧ι0.le ι'∧
  (∀o,W≤o→ι' o=none)∧cz S' w ι' rv v'∧kh (dR w0 ι0 cQ) S' w ι' (lk cr):=
  ⟨v,S,ι2,rfl,iV.fr,λ b hb=>⟨iV.sn b hb,iV.sb b hb⟩,iV.s0,λ j L e=>iV.hj j L e,iV.un,A7,⟨iV.ob,iV.own,iV.inj⟩⟩
 simp_all
theorem fx{DO:AV}(h:FC P G f [] args rv cr)(hV:gi (cr.map (·.1)) (lk cr) 8 rv=some DO):
 FC P G f [] args DO []:=by
 refine⟨h.1,λ o x hx=>by simp[lk]at hx,λ S0 ι0 w0 vs h0 hG gm hι hL=>?_⟩
 refine(h.2.2 S0 ι0 w0 vs h0 hG gm hι hL).mono ?_;rintro e w' ⟨v,S',ι',rfl,nG,vJ,sV,hle,hιW,du,iT⟩;have iG:=xZ iT.ob 8 _ _ _ du hV;refine⟨v,SV S' ι' (lk cr) (cr.map (·.1)),ι',rfl,nG,λ b hb=>?_,λ b hb=>.inl (sV b hb),hle,hιW,.cu _ _ iG,
  ⟨λ o x hx=>by simp[lk]at hx,λ o x hx=>by simp[lk]at hx,λ o o' x x' hx=>by simp[lk]at hx⟩⟩
 rcases hb with hb|⟨o,x,l,_,hx,hl,rfl⟩
 ·simp_all
 ·by_cases ng:x.live=true
  ·have:=iT.own o x hx ng l hl _ (.inl rfl);simp_all
  ·have nY:=iT.ob o x hx;cases x with
   |dD rs=>
    rcases nY with ⟨q,_⟩|⟨l',bc,q,_,hS,_⟩
    all_goals simp_all
   |rows p rs=>exact absurd rfl ng
   |bm p es=>exact absurd rfl ng
   |cw z fs hh=>exact absurd rfl ng
   |cF es hh=>exact absurd rfl ng
   |lit rs=>exact absurd rfl ng
end
section
variable {k n:Nat}{α:Type}
def cn(k:IntKind)(n:Int):List AV:=[.int k n]
def vQ(b:Bool):List AV:=[.bool b]
def gy(s:aj):List AV:=[.str s]
def fJ{α:Type}(c:α→List AV)(l:List α):List AV:=[.sl (l.map c)]
theorem eB{β:Type}{X:Option α}{f:α→Option β}{r:β}(h:Option.bind X f=some r):∃y,X=some y∧f y=some r:=by
 cases X with
 |none=>cases h
 |some y=>simp_all
theorem si{b:Bool}{X Y:Option α}{r:α}(h:cond b X Y=some r)(hb:b=true):X=some r:=by simp_all
theorem sh{b:Bool}{X Y:Option α}{r:α}(h:cond b X Y=some r)(hb:b=false):Y=some r:=by simp_all
theorem dU{p:Prop}{_:Decidable p}{X:Option α}{r:α}(h:cond (decide p) X none=some r):p∧X=some r:=by
 grind
theorem oj{X:List (List AV)}{c:α→List AV}{L:List α}{i:Nat}{y:α}(hX:X=L.map c)(h:L[i]? =some y):X[i]? =some (c y):=by
 simp_all
theorem cT{a b:α}{l l':List α}(h:a=b)(h':l=l'):a::l=b::l':=by simp_all
def ea{R V:Type}[Inhabited V](o:R⊕V):V:=Sum.elim (λ _=>default) id o
theorem lZ{P:Program}{G:eo}{f:Nat}{args nz:List AV}{rv:AV}{os:Os}(e:args=nz)(h:FC P G f [] args rv os):FC P G f [] nz rv os:=e▸h
theorem eF.take{rs:List (List AV)}(h:eF n rs):eF n (rs.take k):=λ r hr=>h r (YZ hr)
theorem eF.drop{rs:List (List AV)}(h:eF n rs):eF n (rs.drop k):=λ r hr=>h r (Wq hr)
theorem eF.replicate{x:List AV}(hx:x.length=n):eF n (List.replicate k x):=λ r hr=>by
 simp_all
def ta(L:aa):Bool:=L.all λ n=>decide (0≤n)&&decide (n<256)
def cv(L:aa):aj:=L.map λ n=>UInt8.ofNat n.toNat
theorem Ja{L:aa}{X:Option α}{r:α}(h:cond (ta L) X none=some r):ta L=true∧X=some r:=by
 grind
theorem JY{X:List (List AV)}{L:aa}(hX:X=L.map (cn .u8))(h:ta L=true):X=gY (cv L):=by
 subst hX;induction L with
 |nil=>rfl
 |cons n r ih=>
  simp only[ta,Ua,Yi,YB]at h;have ih:=ih (by simpa[ta]using h.2)
  simp only[gY,cv,Yy,Wa,cn]at ih⊢;refine cT ?_ ?_
  ·have:((UInt8.ofNat n.toNat).toNat:Int)=n:=by
    simp only[VY];omega
   simp_all
  omega
theorem km{R V:Type}{f:R→α}{g:V→α}{e:R}{X:α}(h:Sum.elim f g (Sum.inl e)=X):f e=X:=h
theorem ko{R V:Type}{f:R→α}{g:V→α}{e:V}{X:α}(h:Sum.elim f g (Sum.inr e)=X):g e=X:=h
@[simp] theorem Es(k:IntKind)(n:Int):cn k n=[.int k n]:=rfl
@[simp] theorem BT(b:Bool):vQ b=[.bool b]:=rfl
@[simp] theorem Er(s:aj):gy s=[.str s]:=rfl
@[simp] theorem Iw(c:α→List AV)(l:List α):fJ c l=[.sl (l.map c)]:=rfl
@[simp] theorem En(l:aj):gY l=l.map λ b=>[.int .u8 b.toNat]:=rfl
@[simp] theorem AA(row:List α)(c:Nat)(xs:List α):setAt row c xs=row.take c++(xs++row.drop (c+xs.length)):=rfl
@[simp] theorem Is(xs:List α)(a b:Nat):cut none none xs a b=xs:=rfl
@[simp] theorem Ir(h:Operand)(xs:List α)(a b:Nat):cut none (some h) xs a b=xs.take b:=rfl
@[simp] theorem Iy(l:Operand)(xs:List α)(a b:Nat):cut (some l) none xs a b=xs.drop a:=rfl
@[simp] theorem Iq(l h:Operand)(xs:List α)(a b:Nat):cut (some l) (some h) xs a b=(xs.take b).drop a:=rfl
theorem Ty{R V:Type}[Inhabited V]{f:R→α}{g:V→α}{o:R⊕V}{X:α}(hR:o=Sum.inr (ea o))(h:Sum.elim f g o=X):g (ea o)=X:=by
 grind
def eM(k:IntKind)(n:Int):Prop:=(Lit.int k n).wf=true
theorem MC{n:Int}(h:eM .i64 n): -9223372036854775808≤n∧n≤9223372036854775807:=by
 simpa[eM,Lit.wf,IntKind.min,IntKind.max,IntKind.signed,IntKind.bits]using h
end
section
variable {G:eo}{P:Program}{c f i:Nat}{p:Bool}{row:List AV}{rs:List (List AV)}
def ID(P:Program)(f:Nat):Prop:=fe P f=true∧
 (∀(b off g:Nat) (fs cap:Array Value) (w:World) (R:World→Prop),w.cell? ⟨b,off,none⟩=some (.int .u32 0)→w.cell? ⟨b,off+1,none⟩=some (.int .i32 0)→
  w.frozen? ⟨b,off,none⟩=false→w.frozen? ⟨b,off+1,none⟩=false→(∀w:World,(callFunc g (fs++cap)).run P w=.ok (.enter g (fs++cap)) w)→
  (Calls P g (fs++cap) (w.setCell ⟨b,off+1,none⟩ (.int .i32 1)) λ e w'=>e=.returned (.tuple #[])∧R w')→
  (∀w',R w'→w'.cell? ⟨b,off,none⟩=some (.int .u32 0)∧w'.cell? ⟨b,off+1,none⟩=some (.int .i32 1)∧w'.frozen? ⟨b,off,none⟩=false∧w'.frozen? ⟨b,off+1,none⟩=false)→
  Calls P f #[.pointer (some ⟨b,off,none⟩),.func (.func g) fs cap] w λ e w'=>e=.returned (.tuple #[])∧
   ∃w1,R w1∧w'=(w1.drew.setCell ⟨b,off,none⟩ (.int .u32 1)).setCell ⟨b,off+1,none⟩ (.int .i32 0))∧
 (∀(a:Addr) (d:Int) (fv:Value) (w:World),d≠0→w.cell? a=some (.int .u32 d)→Calls P f #[.pointer (some a),fv] w λ e w'=>e=.returned (.tuple #[])∧w'=w)
section
variable {Ow S:Nat→Prop}{ι:bp}{w0 w:World}
theorem kh.inv{os:Nat→Option AO}(h:kh Ow S w ι os)(nG:Fr Ow w0 w)(lT:∀b,w0.heap.size≤b→Ow b)(jO:∀b,S b→b<w.heap.size):
 Inv ⟨λ _=>none,w0,⟨0,0,false⟩,Ow,S,0,λ _=>none,λ _ _ h=>(by cases h),λ _=>undef,[],[]⟩ S ι (λ _=>False) ⟨λ _=>.undef,os⟩ {tmps:=#[],defers:=[]} w:=
 ⟨λ t=>.cu _ _ (.undef _),rfl,⟨rfl,λ t ht=>absurd ht (We t),λ q hq=>(by cases hq)⟩,h.ob,h.own,h.inj,jO,λ b hb=>.inl hb,λ o ho=>ho.elim,nG,lT,λ g row hg=>(by cases hg),λ b hb=>hb,λ j L e=>by cases e⟩
theorem kh.write{os:Nat→Option AO}(h:kh Ow S w ι os)(nG:Fr Ow w0 w)(lT:∀b,w0.heap.size≤b→Ow b)(jO:∀b,S b→b<w.heap.size)
 {o:Nat} {cs:List AV} {vs:List Value} {l:Loc} (hx:os o=some (.rows p rs)) (hl:ι o=some (some l)) (fY:rs[i]? =some row)
 (G4:bA S w ι cs vs) (rK:∀v∈vs,v.oneCell'=true) (hc:c+cs.length≤row.length):
 kh Ow S (w.setCells l.bB (l.base+(i*l.bX+c)) vs) ι (bw os [(o,some (.rows (p&&cs.all iy) (rs.set i (setAt row c cs))))])∧Fr Ow w0 (w.setCells l.bB (l.base+(i*l.bX+c)) vs):=by
 have hi:=h.inv nG lT jO;have gm:=h.ob o _ hx;rcases gm with ⟨q,_⟩|⟨l',bc,q,fw,hm,eY,du⟩
 ·simp_all
 ·rw[q]at hl;injection hl with hl;injection hl with hl;subst hl;have iV:=Inv.writes hi (x':=.rows (p&&cs.all iy) (rs.set i (setAt row c cs))) hx rfl q rfl (l'.base+(i*l'.bX+c)) vs
   (λ hw=>OR q fw hm eY du fY G4 rK hc hw)
  exact⟨⟨iV.ob,iV.own,iV.inj⟩,iV.fr⟩
theorem kh.drew{os:Nat→Option AO}(h:kh Ow S w ι os)(nG:Fr Ow w0 w)(lT:∀b,w0.heap.size≤b→Ow b)(jO:∀b,S b→b<w.heap.size):
 kh Ow S w.drew ι os∧Fr Ow w0 w.drew:=by
 have hi:=(h.inv nG lT jO).drew;exact⟨⟨hi.ob,hi.own,hi.inj⟩,hi.fr⟩
end
theorem Jx(x y:AO)(rest:Os):bw (lk ((0,x)::rest)) [(0,some y)]=lk ((0,y)::rest):=by
 funext o;simp only[bw,lk];grind
theorem Cl{S:Nat→Prop}{w:World}{ι:bp}{o:Nat}(h:cX S w ι o (.rows p rs)){l:Loc}(hl:ι o=some (some l))
 (fY:rs[i]? =some row) {k:IntKind} {n:Int} (hx:row[c]? =some (.int k n)):
 w.cell? ⟨l.bB,l.base+(i*l.bX+c),none⟩=some (.int k n)∧w.frozen? ⟨l.bB,l.base+(i*l.bX+c),none⟩=false:=by
 rcases h with ⟨q,_⟩|⟨l',bc,q,fw,hm,eY,du⟩
 ·simp_all
 ·rw[q]at hl;injection hl with hl;injection hl with hl;subst hl;have hi:i<rs.length:=fD fY;have hR:bA S w ι row (bc i):=by
   have:=du i row fY;cases p with
   |false=>simp_all
   |true=>simp only[Yz]at this;exact this.rep
  have hlen:=hR.1;have hc:c<(bc i).length:=by rw[←hlen];exact fD hx
  have hv:(bc i)[c]? =some (bc i)[c]:=Y3 hc;have h1:=eY.2.2 i c _ hi hv;have h2:=(hR.2 c _ _ hx hv).bU;refine⟨by simp_all,?_⟩
  have he:=eY.2.1 i hi;have h3:=eY.1;have h4:(i+1)*l'.bX≤rs.length*l'.bX:=YK _ hi;rw[Wg]at h4;exact(hm _).2 (.inl (by omega))
theorem Zns{rest:Os}{d:Int}{x:AV}(hO:ID P f)
 (hW:(((0,AO.rows p rs)::rest).all (λ e=>decide (e.1<W))&&decide (((0,AO.rows p rs)::rest).length≤W))=true)
 (fY:rs[i]? =some row) (h0:row[c]? =some (.int .u32 d)) (hd:d≠0):FC P G f ((0,.rows p rs)::rest) [.ptr 0 i c,x] (.cx []) ((0,.rows p rs)::rest):=by
 rw[Yi,YB]at hW;refine⟨hO.1,λ o y hy=>?_,λ S0 ι0 w0 vs yS hG gm hι hL=>?_⟩
 ·have:=YW.1 hW.1 _ (uJ hy);simp_all
 obtain⟨vs⟩:=vs;obtain⟨hlen,du⟩:=hL
 match vs,hlen with
 | [v0,v1],_=>
  obtain⟨l,hl,rfl⟩:=(du 0 _ v0 rfl rfl).dF;have hc:=Cl (gm.ob 0 (.rows p rs) rfl) hl fY h0;refine(hO.2.2 ⟨l.bB,l.base+(i*l.bX+c),none⟩ d v1 w0 hd hc.1).mono ?_;rintro e w' ⟨rfl,rfl⟩;exact⟨_,S0,ι0,rfl,⟨rfl,rfl,Yg _,λ _ _ _=>rfl⟩,λ b hb=>⟨.inl hb,yS b hb⟩,λ _ h=>h,bp.le_refl _,λ o ho=>hι o (Wh hW.2 ho),
   .cx [] #[] rfl (λ j x v h=>by simp at h),gm⟩
theorem Fu(w:World)(b o:Nat)(v:Value):w.setCells b o [v]=w.setCell ⟨b,o,none⟩ v:=rfl
theorem S9{w0 w1:World}{ι:bp}{x y:AO}{rest:Os}(hs:w1.heap.size=w0.heap.size)(ue:y.live=x.live)(kd:xx x=true)(mw:xx y=true)
 (hr:∀o z l,o≠0→lk ((0,x)::rest) o=some z→z.live=true→ι o=some (some l)→∀b,c6 w0 z l b→w1.heap[b]? =w0.heap[b]?):
 dR w1 ι ((0,y)::rest)=dR w0 ι ((0,x)::rest):=by
 funext b;unfold dR;rw[hs];apply propext;refine or_congr_right ⟨?_,?_⟩
 ·rintro⟨o,z,l,h1,h2,h3,h4⟩;by_cases e:o=0
  ·subst e;simp only[lk,Yz,Y5]at h1;subst h1;exact⟨0,x,l,by rfl,by simp_all,h3,.inl (iY mw h4)⟩
  ·have qC:lk ((0,x)::rest) o=some z:=by simpa[lk,e]using h1
   exact⟨o,z,l,qC,h2,h3,ft (hr o z l e qC h2 h3) h4⟩
 ·rintro⟨o,z,l,h1,h2,h3,h4⟩;by_cases e:o=0
  ·subst e;simp only[lk,Yz,Y5]at h1;subst h1;exact⟨0,y,l,by rfl,by simp_all,h3,.inl (iY kd h4)⟩
  ·exact⟨o,z,l,by simpa[lk,e]using h1,h2,h3,Zps (hr o z l e h1 h2 h3) h4⟩
theorem Zmz{g h:Nat}{p1:Bool}{rs1:List (List AV)}{rest rest1:Os}{BR:List AV}{row1:List AV}(hO:ID P f)(RX:h=g∨h=FB+g)
 (hW:(((0,AO.rows p rs)::rest).length≤W))
 (fY:rs[i]? =some row) (h0:row[c]? =some (.int .u32 0)) (h1:row[c+1]? =some (.int .i32 0))
 (hF:FC P G g ((0,.rows p (rs.set i (setAt row (c+1) [.int .i32 1])))::rest) BR (.cx []) ((0,.rows p1 rs1)::rest1))
 (oW:rs1[i]? =some row1) (h2:row1[c]? =some (.int .u32 0)) (h3:row1[c+1]? =some (.int .i32 1)):
 FC P G f ((0,.rows p rs)::rest) [.ptr 0 i c,.fn h BR] (.cx []) ((0,.rows p1 (rs1.set i (setAt (setAt row1 c [.int .u32 1]) (c+1) [.int .i32 0])))::rest1):=by
 obtain⟨yY,rM,D9⟩:=hF;refine⟨hO.1,λ o y hy=>?_,λ S0 ι0 w0 vs yS hG gm hι hL=>?_⟩
 ·by_cases e:o=0
  ·grind
  ·exact rM o y (by simpa[lk,e]using hy)
 obtain⟨vs⟩:=vs;obtain⟨hlen,du⟩:=hL
 match vs,hlen with
 | [v0,v1],_=>
  obtain⟨l,hl,rfl⟩:=(du 0 _ v0 rfl rfl).dF;obtain⟨cap,rfl,iH⟩:=(du 1 _ v1 rfl rfl).ie;have pP:=gm.ob 0 (.rows p rs) rfl;obtain⟨fs,cp,R0,Ea⟩:∃fs cp:Array Value,om h cap=.func (.func g) fs cp∧fs++cp=cap:=by
   rcases RX with rfl|rfl
   ·exact⟨#[],cap,xB (Cc yY) _,by simp⟩
   ·refine⟨cap,#[],?_,by simp⟩
    have Lx:Nat.blt (FB+g) FB=false:=by
     cases hb:Nat.blt (FB+g) FB with
     |false=>rfl
     |true=>
      have:=Ws hb;omega
    unfold om;simp_all
  rw[R0];have c0:=Cl pP hl fY h0;have c1:=Cl pP hl fY h1;have HV:Fr (dR w0 ι0 ((0,.rows p rs)::rest)) w0 w0:=⟨rfl,rfl,Yg _,λ _ _ _=>rfl⟩;have lT:∀b,w0.heap.size≤b→dR w0 ι0 ((0,.rows p rs)::rest) b:=λ b hb=>.inl hb
  have rA:=kh.write (cs:=[.int .i32 1]) (vs:=[.int .i32 1]) (c:=c+1) gm HV lT yS rfl hl fY (.cons (.cu _ _ (.int _ _)) .nil) (by simp[Value.oneCell'])
   (by grind)
  rw[Jx,show(p&&[AV.int .i32 1].all iy)=p by simp[iy]]at rA
  obtain⟨uk,n5⟩:=rA;rw[Fu]at uk n5;generalize my:w0.setCell ⟨l.bB,l.base+(i*l.bX+(c+1)),none⟩ (.int .i32 1)=w1 at uk n5;have fg:w1.heap.size=w0.heap.size:=by rw[←my];simp
  have Eh:dR w1 ι0 ((0,.rows p (rs.set i (setAt row (c+1) [.int .i32 1])))::rest)=dR w0 ι0 ((0,.rows p rs)::rest):=S9 fg rfl rfl rfl (λ o z l' ho hz ng jy b hb=>by
   rw[←my,←Fu];exact V3 w0 _ _ _ (gm.own o z hz ng l' jy b hb).2.2 (λ e=>ho (gm.inj o 0 z (.rows p rs) hz rfl ng rfl l' l jy hl b hb (.inl e))))
  have rD:gA S0 w0 w1:=λ b hb=>n5.old b (yS b hb) (λ hO=>by
   rcases hO with h|⟨o,x,l',q1,q2,q3,q4⟩
   ·grind
   ·exact(gm.own o x q1 q2 l' q3 b q4).2.1 hb)
  have jz:=D9 S0 ι0 w1 cap (λ b hb=>by simp_all) (λ g row hg=>(hG g row hg).mono (λ _ h=>h) rD) (by simp_all) hι (iH.mono (λ _ h=>h) rD (bp.le_refl _))
  rw[Eh]at jz;let R:World→Prop:=λ w'=>∃S' ι',Fr (dR w0 ι0 ((0,.rows p rs)::rest)) w1 w'∧
   (∀b,S' b→(S0 b∨dR w0 ι0 ((0,.rows p rs)::rest) b)∧b<w'.heap.size)∧(∀b,S0 b→S' b)∧ι0.le ι'∧(∀o,W≤o→ι' o=none)∧kh (dR w0 ι0 ((0,.rows p rs)::rest)) S' w' ι' (lk ((0,.rows p1 rs1)::rest1))
  have dC:∀w',R w'→w'.cell? ⟨l.bB,l.base+(i*l.bX+c),none⟩=some (.int .u32 0)∧w'.cell? ⟨l.bB,l.base+(i*l.bX+c)+1,none⟩=some (.int .i32 1)∧
   w'.frozen? ⟨l.bB,l.base+(i*l.bX+c),none⟩=false∧w'.frozen? ⟨l.bB,l.base+(i*l.bX+c)+1,none⟩=false:=by
   rintro w' ⟨S',ι',_,_,_,hle,_,iT⟩;have jy:=hle _ _ hl;have a:=Cl (iT.ob 0 (.rows p1 rs1) rfl) jy oW h2;have b:=Cl (iT.ob 0 (.rows p1 rs1) rfl) jy oW h3;exact⟨a.1,b.1,a.2,b.2⟩
  refine(hO.2.1 l.bB (l.base+(i*l.bX+c)) g fs cp w0 R c0.1 c1.1 c0.2 c1.2 (λ w=>JZ yY _ w) ?_ dC).mono ?_
  ·rw[Ea];show Calls P g cap (w0.setCell ⟨l.bB,l.base+(i*l.bX+(c+1)),none⟩ (.int .i32 1)) _;rw[my];refine jz.mono ?_;rintro e w' ⟨v,S',ι',rfl,q1,q2,q3,q4,q5,q6,q7⟩;obtain⟨us,rfl,G7⟩:=q6.ib;have hu0:us=#[]:=by
    have:=G7.1;simp at this;exact Array.eq_empty_of_size_eq_zero this.symm
   grind
  ·rintro e w' ⟨rfl,w2,⟨S',ι',q1,q2,q3,q4,q5,q7⟩,rfl⟩;have jy:=q4 _ _ hl;have HU:Fr (dR w0 ι0 ((0,.rows p rs)::rest)) w0 w2:=⟨q1.os.trans n5.os,q1.output.trans n5.output,Wh n5.size q1.size,λ b hb hn=>(q1.old b (by omega) hn).trans (n5.old b hb hn)⟩
   have jO:∀b,S' b→b<w2.heap.size:=λ b hb=>(q2 b hb).2;obtain⟨Hv,HT⟩:=q7.drew HU lT jO
   have RA:=fD h3;have rA:=kh.write (cs:=[.int .u32 1]) (vs:=[.int .u32 1]) (c:=c) Hv HT lT jO rfl jy oW (.cons (.cu _ _ (.int _ _)) .nil) (by simp[Value.oneCell'])
    (by grind)
   rw[Jx,show(p1&&[AV.int .u32 1].all iy)=p1 by simp[iy],Fu]at rA
   obtain⟨Hu,HS⟩:=rA;have ln:=fD oW;have rA:=kh.write (cs:=[.int .i32 0]) (vs:=[.int .i32 0]) (c:=c+1) (i:=i) (row:=setAt row1 c [.int .u32 1]) Hu HS lT (λ b hb=>by simp_all) rfl jy (by simp[ln]) (.cons (.cu _ _ (.int _ _)) .nil) (by simp[Value.oneCell'])
    (by rw[u6 _ _ _ (by grind)];grind)
   rw[Jx,show(p1&&[AV.int .i32 0].all iy)=p1 by simp[iy],Fu,List.set_set]at rA
   obtain⟨Ht,HR⟩:=rA;exact⟨_,S',ι',rfl,HR,λ b hb=>⟨(q2 b hb).1,by simpa using jO b hb⟩,q3,q4,q5,.cx [] #[] rfl (λ j x v h=>by simp at h),Ht⟩
theorem Inv.rh{C:Cx}{S:Nat→Prop}{w:World}{ι:bp}{un:Nat→Prop}{f:FS}{a:Act}(h:Inv C S ι un f a w){o:Nat}{x x':AO}(ho:f.os o=some x)(h1:xx x=true)(qC:xx x'=true)(hl:x.live=true)
 (mM:cX S w ι o x'):Inv C S ι un {f with os:=bw f.os [(o,some x')]} a w:=by
 have uj:∀k y,bw f.os [(o,some x')] k=some y→(k=o∧y=x')∨(k≠o∧f.os k=some y):=by
  intro k y hy;simp only[bw]at hy;by_cases e:k=o
  ·simp_all
  ·simp_all
 refine h.iC (λ _ x=>x) (λ _ _=>rfl) (bp.le_refl _) ?_ ?_ ?_ h.sb h.sn h.un h.fr
 ·intro k y hy;rcases uj k y hy with ⟨rfl,rfl⟩|⟨_,h3⟩
  ·exact mM
  ·exact h.ob k y h3
 ·intro k y hy mB l jy b hb;rcases uj k y hy with ⟨rfl,rfl⟩|⟨_,h3⟩
  ·exact h.own k x ho hl l jy b (.inl (iY qC hb))
  ·exact h.own k y h3 mB l jy b hb
 ·intro k1 k2 y1 y2 mw nS iR jX l1 l2 e1 e2 b lB kN;rcases uj k1 y1 mw with ⟨rfl,rfl⟩|⟨_,h3⟩<;>rcases uj k2 y2 nS with ⟨g0,g⟩|⟨_,g3⟩
  ·omega
  ·exact h.inj k1 k2 x y2 ho g3 hl jX l1 l2 e1 e2 b (.inl (iY qC lB)) kN
  ·subst g0;subst g;exact h.inj k1 k2 y1 x h3 ho iR hl l1 l2 e1 e2 b lB (.inl (iY qC kN))
  ·exact h.inj k1 k2 y1 y2 h3 g3 iR jX l1 l2 e1 e2 b lB kN
theorem Mw{cQ:Os}{args:List AV}{v:AV}{os cr:Os}(o i c z:Nat)(h:FC P G f cQ args v os)(n0:cQ.length≤W)
 (ho:lk os o=some (.rows false rs)) (fY:rs[i]? =some row) (hc:row[c]? =some .dK) (Bg:(cr.all λ e=>decide (e.1<W))=true)
 (hE:jD cQ.length v cr v (ia os [(o,some (.rows false (rs.set i (setAt row c [.bf W z])))),(W,some (.rows true []))])):FC P G f cQ args v cr:=by
 refine⟨h.1,λ o x hx=>?_,λ S0 ι0 w0 vs h0 hG gm hι hL=>?_⟩
 ·have:=YW.1 Bg _ (uJ hx);simp_all
 refine(h.2.2 S0 ι0 w0 vs h0 hG gm hι hL).mono ?_;rintro e w ⟨u,S,ι,rfl,q1,q2,q3,q4,q5,q6,q7⟩;obtain⟨os2,σ,oc,y6⟩:=hE.h;have vI:∀j L,ι0 j=some L→j<cQ.length:=λ j L e=>by
  grind
 let C':Cx:=⟨λ _=>none,w0,⟨0,1,false⟩,dR w0 ι0 cQ,S0,cQ.length,ι0,vI,λ _=>undef,[],[]⟩;have pS:Inv C' S ι (λ x=>W≤x) (dn [(0,v)] os) {tmps:=#[u],defers:=[]} w:=by
  refine⟨λ t=>?_,rfl,⟨rfl,λ t ht=>absurd ht (We t),λ q hq=>(by cases hq)⟩,q7.ob,q7.own,q7.inj,λ b hb=>(q2 b hb).2,λ b hb=>(q2 b hb).1,q5,q1,λ b hb=>.inl hb,λ g row hg=>(by cases hg),q3,λ j L e=>q4 j _ e⟩
  cases t with
  |zero=>exact q6
  |succ t=>exact .cu _ _ (.undef _)
 obtain⟨ι1,hle,hιW,ln⟩:=pS.void (id:=W) (Yg W) true;have Hw:o≠W:=λ e=>by have:=h.2.1 o _ ho;omega
 have D3:({dn [(0,v)] os with os:=bw (dn [(0,v)] os).os [(W,some (.rows true []))]}:FS).os o=some (.rows false rs):=by
  show bw (lk os) [(W,some (.rows true []))] o=_;simp only[bw,if_neg Hw];exact ho
 have uk:=ln.ob o _ D3;have iV:=ln.rh (x':=.rows false (rs.set i (setAt row c [.bf W z]))) D3 rfl rfl rfl (by
  rcases uk with ⟨_,h⟩|⟨l,bc,h1,h2,h3,h4,h5⟩
  ·simp_all
  ·refine .inr ⟨l,bc,h1,by simp_all,h3,by simp_all,λ j r hr=>?_⟩
   simp only[YN,Ym];by_cases e:i=j
   ·subst e;have iU:=fD fY;rw[Vg iU]at hr;injection hr with hr;subst hr;have hR:=h5 i row fY;simp only[YN,Ym]at hR;have iG:=fD hc;refine⟨by rw[u6 _ _ _ (by grind)];exact hR.1,λ t x v hx hv=>?_⟩
    by_cases ht:t=c
    ·subst ht;have:(setAt row t [AV.bf W z])[t]? =some (.bf W z):=by
      unfold setAt;rw[Yl (by grind)]
      simp[YY (Vh iG)]
     rw[this]at hx;injection hx with hx;subst hx;have:=hR.2 t _ v hc hv;cases this with
     |cu _ _ h=>cases h with|dK ad=>exact .fW W z ad hιW
    ·refine hR.2 t x v ?_ hv;rw[←hx];unfold setAt;rcases Wo t c with q|q
     ·grind
     ·rw[Yl (by grind),Yl (by grind),YP]
      grind
   ·rw[List.getElem?_set_ne e]at hr;have:=h5 j r hr;simp_all)
 have e:({({dn [(0,v)] os with os:=bw (dn [(0,v)] os).os [(W,some (.rows true []))]}:FS)with os:=bw ({dn [(0,v)] os with os:=bw (dn [(0,v)] os).os [(W,some (.rows true []))]}:FS).os [(o,some (.rows false (rs.set i (setAt row c [.bf W z]))))]}:FS)
  =dn [(0,v)] (ia os [(o,some (.rows false (rs.set i (setAt row c [.bf W z])))),(W,some (.rows true []))]):=by
  unfold dn;rw[B8];simp only[FS.mk.injEq,true_and];funext k;simp only[bw]
 rw[e]at iV;obtain⟨ι2,mO⟩:=(Inv.rZ oc iV).vO y6;exact⟨u,S,ι2,rfl,mO.fr,λ b hb=>⟨mO.sn b hb,mO.sb b hb⟩,mO.s0,λ j L e=>mO.hj j L e,mO.un,mO.tm 0,⟨mO.ob,mO.own,mO.inj⟩⟩
end
end Go.Ab
