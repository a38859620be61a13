import Derived.Test.YtjpmdkgonlmddaaGreatDoorAbH
import Derived.RangeFuncIn
import Derived.RangeFuncOwn
import Derived.RangeFuncLeaves
set_option linter.unusedVariables false
namespace Go.Ab
theorem Inv.act{C:Cx}{S:Nat→Prop}{ι:ax}{un:Nat→Prop}{gx:Tm}{os:Os}{a a':Act}{w:World}(h:Inv C S ι un (cz gx os) a w){lo:Nat}
 (hg:gx.all (fun e=>decide (e.1<lo))=true) (ht:∀t,t<lo→a'.tmps.getD t undef=a.tmps.getD t undef) (N:Sl) (kv:Nat→Value) (dfs:List Deferred) (qb:List (Nat×Obj))
 (hsz:a'.tmps.size=N.n) (hdf:a'.defers=dfs) (hkv:∀t,t<N.lo→a'.tmps.getD t undef=kv t) (hq:∀q,q∈qb→S q.1∧w.heap[q.1]? =some q.2):
 Inv {C with N:=N,kv:=kv,dfs:=dfs,qb:=qb} S ι un (cz gx os) a' w:=by
 refine⟨fun t=>?_,hsz,⟨hdf,hkv,hq⟩,h.ob,h.own,h.inj,h.sb,h.sn,h.un,h.fr,h.fo,h.gv,h.s0,h.hj⟩
 show bP S w ι (bX gx t) _
 rcases Lf (g:=gx) (t:=t)with hu|hm
 ·rw[hu];exact .bI _ _ (.undef _)
 ·have:=YG.1 hg _ hm
  simp only[Yx]at this;rw[ht t this];exact h.tm t
theorem Ky(g:Tm)(os:Os)(p:Nat)(v:AV):(cz g os).put (some p) v=cz ((p,v)::g) os:=by
 rfl
theorem QH{S:Nat→Prop}{w:World}{zs:List Int}{v:Value}(hsb:∀b,S b→b<w.heap.size)(h:bR S w (.sl (zs.map fun z=>[.int .i64 z])) v):
 ∃qz:List (Nat×Obj),(∀q,q∈qz→S q.1∧w.heap[q.1]? =some q.2)∧∀W:World,(∀q,q∈qz→W.heap[q.1]? =some q.2)→Gu W v zs:=by
 generalize hX:AV.sl (zs.map fun z=>[.int .i64 z])=X at h
 cases h with
 |fI=>
  injection hX with hX
  have:zs=[]:=by simpa using hX
  subst this
  exact⟨[],⟨fun q hq=>(by cases hq),fun W _=>⟨none,0,rfl,fun j z hz=>by simp at hz⟩⟩⟩
 |sl xs ad cap sz vals hcap hlim hS hlen hcell hrep=>
  injection hX with hX
  subst hX
  cases zs with
  |nil=>exact⟨[],⟨fun q hq=>(by cases hq),fun W _=>⟨some ad,cap,rfl,fun j z hz=>by simp at hz⟩⟩⟩
  |cons z0 zr=>
   have hS':=hS (by simp)
   obtain⟨o,ho⟩:∃o,w.heap[ad.block]? =some o:=⟨_,YK (hsb _ hS'.1)⟩
   refine⟨[(ad.block,o)],fun q hq=>?_,fun W hW=>⟨some ad,cap,by simp,fun j z hz=>⟨ad,rfl,hS'.2,?_⟩⟩⟩
   ·simp_all
   ·have hr:((z0::zr).map fun z=>[AV.int .i64 z])[j]? =some [.int .i64 z]:=by rw[Yn,hz];rfl
    have hj:=eZ hr
    have hl:=hlen j _ hr
    have hsz:sz=1:=by rw[←hl.1];rfl
    subst hsz
    obtain⟨u,hu⟩:∃u,(vals j)[0]? =some u:=⟨_,Y3 (by omega)⟩
    have h1:=hcell j 0 u hj hu
    have h2:=hrep j 0 _ _ u hr rfl hu
    cases h2
    have hb:W.heap[ad.block]? =w.heap[ad.block]? :=(hW (ad.block,o) (by simp)).trans ho.symm
    have:=(lh (j:=ad.off+(j*1+0)) hb).trans h1.1
    simp_all
 |_=>cases hX
theorem y3{S:Nat→Prop}{w:World}{zs:List Int}{v:Value}(hsb:∀b,S b→b<w.heap.size)(h:bR S w (.rp [.sl (zs.map fun z=>[.int .i64 z])] 0) v):
 ∃pa:Addr,v=.pointer (some pa)∧∃qz:List (Nat×Obj),(∀q,q∈qz→S q.1∧w.heap[q.1]? =some q.2)∧∀W:World,(∀q,q∈qz→W.heap[q.1]? =some q.2)→∃u,W.cell? pa=some u∧Gu W u zs:=by
 cases h with
 |rp row off bd base vals hS hl hcell hrep=>
  refine⟨⟨bd,base+0,none⟩,rfl,?_⟩
  obtain⟨u,hu⟩:∃u,vals[0]? =some u:=⟨_,Y3 (by grind)⟩
  obtain⟨qz,h1,h2⟩:=QH hsb (hrep 0 _ u rfl hu)
  obtain⟨o,ho⟩:∃o,w.heap[bd]? =some o:=⟨_,YK (hsb _ hS)⟩
  refine⟨(bd,o)::qz,fun q hq=>?_,fun W hW=>⟨u,?_,h2 W (fun q hq=>hW q (Yk _ hq))⟩⟩
  ·grind
  ·have hb:W.heap[bd]? =w.heap[bd]? :=(hW _ Yl).trans ho.symm
   exact(lh (j:=base+0) hb).trans (hcell 0 u hu).1
set_option maxHeartbeats 1000000 in
theorem Sj{P:Program}{C:Cx}{S:Nat→Prop}{ι:ax}{a:Act}{w:World}{g:Tm}{os:Os}{nx:Nat}{gop:Operand}{ps:Array Tmp}{assign body:Code}
 {X:Nat→Bool→(Tm→Os→Nat→Prop)→Tm→Os→Nat→Prop} {K:Tm→Os→Nat→Prop} {Q:Exit→Act→World→Prop}
 (hdf:C.dfs=[]∧C.qb=[])
 (hX:∀(C':Cx) lo b κ g os nx l,C'.N=⟨lo,C.N.n,true⟩→C'.G=C.G→C'.m=C.m→X lo b κ g os nx→∀S ι a w,Inv C' S ι (fun x=>nx≤x) (cz g os) a w→
  (bif b then body else assign).wpIn (WF (some l)) 0 P (Exit.then (fun a w=>∃g os nx S ι,κ g os nx∧Inv C' S ι (fun x=>nx≤x) (cz g os) a w) (fun _ _ _=>False)) a w)
 (hK:∀D g os nx,K g os nx→C.Ow D→∀S ι a w,Inv (C.fj D) S ι (fun x=>nx≤x) (cz g os) a w→Q .normal a w)
 (hR:Gx P C.N C.m g os nx (gD C.G (bX g) gop) ps.toList X K) (hinv:Inv C S ι (fun x=>nx≤x) (cz g os) a w):
 (Code.rangeFunc gop ps assign body).wpIn (WF none) 0 P Q a w:=by
 obtain⟨fB,zs,p,q,lo,α,gx,osx,nx',I,x0,σ0,hB,hgv,hps,hd,hI0,hcov,hround,hend⟩:=hR.h
 simp only[Y9,Yx]at hd
 obtain⟨⟨⟨⟨⟨hp1,hp2⟩,hq1⟩,hq2⟩,hpq⟩,hgx⟩:=hd
 have hev:=hinv.ev gop
 rw[show(cz g os).g=bX g from rfl,hgv]at hev
 obtain⟨vs,hv,hL⟩:=hev.gC
 obtain⟨vs⟩:=vs
 obtain⟨hlen,hrep⟩:=hL
 match vs,hlen with
 | [pv],_=>
 have hpv:bR S w (.rp [.sl (zs.map fun z=>[.int .i64 z])] 0) pv:=by
  have h:=hrep 0 _ pv rfl rfl
  cases h with|bI _ _ h=>exact h
 have hlz:zs.length≤bm:=by
  cases hpv with
  |rp row off bd base vals hS hl hcell hrep2=>
   obtain⟨u,hu⟩:∃u,vals[0]? =some u:=⟨_,Y3 (by grind)⟩
   have:=hrep2 0 _ u rfl hu
   generalize hX:AV.sl (zs.map fun z=>[.int .i64 z])=X at this
   cases this with
   |fI=>
    injection hX with hX;have:zs=[]:=by simpa using hX
    grind
   |sl xs ad cap sz vals hcap hlim hS hlen hcell hrep=>grind
   |_=>cases hX
 obtain⟨pa,rfl,qz,hqz1,hqz2⟩:=y3 hinv.sb hpv
 rw[vQ (A6 hB.1)]at hv
 have hadf:a.defers=[]:=hinv.df.1.trans hdf.1
 refine wpIn_rangeFunc ?_
 intro fn _
 let rec0:LoopState→Loop:=fun st=>{state:=st,pending:=none,fn:=fn,tmps:=a.tmps,params:=ps,assign:=assign,body:=body,defers:=w.heap.size}
 let D:=w.heap.size
 let L:=w.heap.size+1
 have hOD:C.Ow D:=hinv.fo _ hinv.fr.size
 have hOL:C.Ow L:=hinv.fo _ (Nat.le_succ_of_le hinv.fr.size)
 have hqzlt:∀q,q∈qz→q.1<D:=fun q hq=>hinv.sb _ (hqz1 q hq).1
 have hi1:=hinv.lay (.deferred (some [])) (a':=a) (dfs:=[]) (qb:=(D,.deferred (some []))::qz) rfl hadf (fun q hq=>by
  rcases Yh.1 hq with rfl|hq
  ·exact⟨.inr rfl,World.alloc_heap_new w _⟩
  ·exact⟨.inl (hqz1 q hq).1,(qJ w _ _ (hqzlt q hq)).trans (hqz1 q hq).2⟩)
 have hsz1:(w.alloc (.deferred (some []))).heap.size=L:=by rw[WX]
 have hi2:=hi1.lay (.loop (rec0 .ready)) (a':=a) (dfs:=[]) (qb:=(L,.loop (rec0 .ready))::(D,.deferred (some []))::qz) rfl hadf (fun q hq=>by
  rcases Yh.1 hq with rfl|hq
  ·refine⟨.inr hsz1.symm,?_⟩
   have:=World.alloc_heap_new (w.alloc (.deferred (some []))) (.loop (rec0 .ready))
   grind
  ·have h:=hi1.df.2.2 q hq
   exact⟨.inl h.1,(qJ _ _ _ (hi1.sb _ h.1)).trans h.2⟩)
 generalize hW1:(w.alloc (.deferred (some []))).alloc (.loop (rec0 .ready))=W1 at hi2
 generalize hS2:(fun b=>(S b∨b=w.heap.size)∨b=(w.alloc (.deferred (some []))).heap.size)=S2 at hi2
 obtain⟨ι1,hi3⟩:=hi2.uh hcov
 let Cr:LoopState→Cx:=fun st=>{C with N:=⟨lo,C.N.n,true⟩,kv:=fun t=>a.tmps.getD t undef,dfs:=[],qb:=(L,.loop (rec0 st))::(D,.deferred (some []))::qz}
 let a0:Act:={tmps:=a.tmps,defers:=[]}
 let J:Nat→World→Prop:=fun k W=>∃x S ι,I k x∧Inv (Cr .ready) S ι (fun y=>nx'≤y) (cz gx (osx x)) a0 W
 have hJ0:J 0 W1:=⟨x0,_,_,hI0,hi3.act (a':=a0) hgx (fun t _=>rfl) ⟨lo,C.N.n,true⟩ (fun t=>a.tmps.getD t undef) [] _ hinv.sz rfl (fun t _=>rfl) hi3.df.2.2⟩
 refine⟨L,[mark D],W1,{target:=.fn (.func fB) #[.pointer (some pa)],args:=#[.func (.yield L) #[] #[]]},W1,fB,#[.func (.yield L) #[] #[]]++ #[.pointer (some pa)],W1,?_,?_,fun _ _=>trivial,?_,fun h=>(by cases h),?_⟩
 ·rw[←hW1];exact run_enterLoop_outer _ _ _ _ _
 ·simp only[resolve,hv]
  simp[go_sem]
 ·simp[invoke,go_sem,Hn hB.1]
 ·have hqr:∀k W,J k W→W.heap[L]? =some (.loop (rec0 .ready))∧W.heap[D]? =some (.deferred (some []))∧∀q,q∈qz→W.heap[q.1]? =some q.2:=by
   rintro k W ⟨x,S,ι,_,hi⟩
   exact⟨(hi.df.2.2 (L,.loop (rec0 .ready)) (by simp[Cr])).2,(hi.df.2.2 (D,.deferred (some [])) (by simp[Cr])).2,fun q hq=>(hi.df.2.2 q (by grind)).2⟩
  refine CallsIn.mono (hB.2 L pa zs J W1 hlz (fun k W hk=>hqz2 W (hqr k W hk).2.2) ?_ hJ0) ?_
  ·
   rintro k z W hkz ⟨x,S,ι,hIk,hi⟩
   have hLr:W.heap[L]? =some (.loop (rec0 .ready)):=(hi.df.2.2 (L,.loop (rec0 .ready)) (by simp[Cr])).2
   have hpsz:ps=#[p,q]:=by
    apply Array.toList_inj.1;rw[hps]
   have hy:=run_yield (P:=P) (args:=#[.int .i64 ((zs.length-1-k:Nat):Int),.int .i64 z]) hLr (by grind)
   refine⟨_,_,_,_,hy,roundIn_of_wpIn trivial ?_⟩
   have htm:(((rec0 .ready).params.zip #[Value.int .i64 ((zs.length-1-k:Nat):Int),.int .i64 z]).foldl (fun tmps (t,a)=>tmps.setIfInBounds t a) (rec0 .ready).tmps)
    =(a.tmps.setIfInBounds p (.int .i64 ((zs.length-1-k:Nat):Int))).setIfInBounds q (.int .i64 z):=by
    show((ps.zip _).foldl _ a.tmps)=_
    rw[hpsz];simp
   have hput:=(hi.put (dst:=some p) (v:=.int .i64 ((zs.length-1-k:Nat):Int)) (v':=.int .i64 ((zs.length-1-k:Nat):Int)) (.bI _ _ (.int _ _)) (fun d e=>by
    grind)).put (dst:=some q) (v:=.int .i64 z) (v':=.int .i64 z) (.bI _ _ (.int _ _)) (fun d e=>by
    grind)
   rw[Ky,Ky]at hput
   have hb1:=hX (Cr .ready) lo false _ _ _ _ L rfl rfl rfl (hround k z x hkz hIk) S ι _ W hput
   rw[show(rec0 .ready).assign=(bif false then body else assign)from rfl,htm]
   refine wpIn_mono hb1 ?_
   intro e a1 w1 he
   cases e with
   |normal=>
    obtain⟨g1,os1,nx1,S1,ι1,hX1,hi1⟩:=he
    have h1:=hi1.df.2.2 (L,.loop (rec0 .ready)) (by simp[Cr])
    refine⟨_,run_beginRound h1.2 rfl,?_⟩
    have hne:∀q,q∈qz→q.1≠L:=fun q hq e=>by grind
    have hi1b:Inv (Cr .busy) S1 ι1 (fun x=>nx1≤x) (cz g1 os1) a1 (w1.putObj L (.loop (rec0 .busy))):=hi1.sd (o':=.loop (rec0 .busy)) (a':=a1) (dfs:=[]) (qb:=(L,.loop (rec0 .busy))::(D,.deferred (some []))::qz)
     h1.1 hOL h1.2 rfl rfl rfl hi1.df.1 (fun q hq=>by
      rcases Yh.1 hq with rfl|hq
      ·exact⟨h1.1,Vm (hi1.sb _ h1.1)⟩
      ·have h:=hi1.df.2.2 q (by grind)
       refine⟨h.1,(Wi ?_).trans h.2⟩
       grind)
    have hb2:=hX (Cr .busy) lo true _ _ _ _ L rfl rfl rfl hX1 S1 ι1 a1 _ hi1b
    refine wpIn_mono hb2 ?_
    intro e a2 w2 he
    cases e with
    |normal=>
     obtain⟨g2,os2,nx2,S2,ι2,⟨x',σ,hI',hcov'⟩,hi2⟩:=he
     have h2:=hi2.df.2.2 (L,.loop (rec0 .busy)) (by simp[Cr])
     refine⟨_,_,run_endRound none h2.2,rfl,x',S2,?_⟩
     have hi2b:Inv (Cr .ready) S2 ι2 (fun x=>nx2≤x) (cz g2 os2) a2 (w2.putObj L (.loop (rec0 .ready))):=hi2.sd (o':=.loop (rec0 .ready)) (a':=a2) (dfs:=[]) (qb:=(L,.loop (rec0 .ready))::(D,.deferred (some []))::qz)
      h2.1 hOL h2.2 rfl rfl rfl hi2.df.1 (fun q hq=>by
       rcases Yh.1 hq with rfl|hq
       ·exact⟨h2.1,Vm (hi2.sb _ h2.1)⟩
       ·have h:=hi2.df.2.2 q (by grind)
        refine⟨h.1,(Wi ?_).trans h.2⟩
        grind)
     obtain⟨ι3,hi3⟩:=hi2b.uh hcov'
     refine⟨ι3,hI',?_⟩
     exact hi3.act (a':=a0) hgx (fun t ht=>(hi3.df.2.1 t ht).symm) ⟨lo,C.N.n,true⟩ (fun t=>a.tmps.getD t undef) [] _ hinv.sz rfl (fun t _=>rfl) hi3.df.2.2
    |_=>exact he.elim
   |_=>exact he.elim
  ·
   rintro e W2 ⟨⟨v,rfl⟩,x,S3,ι3,hIx,hi⟩
   have h1:=hi.df.2.2 (L,.loop (rec0 .ready)) (by simp[Cr])
   have h2:=hi.df.2.2 (D,.deferred (some [])) (by simp[Cr])
   refine⟨none,_,run_endLoop h1.2 (by simp),?_⟩
   have hi4:=hi.sd (o':=.loop {rec0 .ready with state:=.exhausted}) (a':=a0) (dfs:=[]) (qb:=[(D,.deferred (some []))]) h1.1 hOL h1.2 rfl rfl rfl rfl (fun q hq=>by
    rw[Ys.1 hq]
    exact⟨h2.1,(Wi (by omega)).trans h2.2⟩)
   have hi5:=hi4.act (a':={a with defers:=[mark D]++a.defers}) hgx (fun t _=>rfl) {C.N with no:=true} C.kv [mark D] [(D,.deferred (some []))] hinv.sz (by grind) hinv.df.2.1 hi4.df.2.2
   exact hK D _ _ _ (hend x hIx) hOD _ _ _ _ hi5
theorem Hw{P:Program}{C C':Cx}{r:Option Nat}{B:Exit→Act→World→Prop}:∀{k:List r8},GC k=true→KQ P C r B k=KQ P C' r B k
 | [],_=>rfl
 |.code c::k,h=>by simp only[KQ];rw[Hw (C':=C') (k:=k) h]
 |.bd id::k,h=>by simp only[KQ];rw[Hw (C':=C') (k:=k) h]
 |.stop _::_,h=>by cases h
theorem Ue{P:Program}(hm:P.follows .mixedOrders=true)(n:Nat):∀{r:Option Nat} {C:Cx} {fin:Tm→Os→Prop} {B:Exit→Act→World→Prop}
 (_:C.N.no=false→r=none∧C.dfs=[]∧C.qb=[])
 (_:∀C',C.to C'→∀g os,fin g os→∀S ι un a w,Inv C' S ι un (cz g os) a w→B .normal a w∧B .ret a w)
 (k:List r8) (g:Tm) (os:Os) (nx:Nat),dL P C.G C.N C.m fin n k g os nx→∀S ι a w,Inv C S ι (fun x=>nx≤x) (cz g os) a w→KQ P C r B k .normal a w:=by
 induction n with
 |zero=>intro r C fin B hr hfin k g os nx h;exact h.elim
 |succ n ihA=>
  intro r C fin B hr hfin k g os nx h S ι a w hinv
  have ih:=fun(k:List r8) (g:Tm) (os:Os) (nx:Nat) (h:dL P C.G C.N C.m fin n k g os nx)=>ihA hr hfin k g os nx h
  cases k with
  |nil=>exact(hfin C .refl g os h S ι _ a w hinv).1
  |cons f k=>
   cases f with
   |bd id=>exact ih k g os nx h S ι a w hinv
   |stop κ=>exact⟨g,os,nx,S,ι,h,hinv⟩
   |code c=>
    show c.wpIn (WF r) 0 P (KQ P C r B k) a w
    simp only[dL]at h
    rcases y6 h with h|⟨R,gx,osx,nx',hbody,hK⟩
    rotate_left
    ·have h1:c.wpIn (WF r) 0 P (KQ P C r B (.stop _::k)) a w:=ih _ g os nx hbody S ι a w hinv
     refine wpIn_mono (Exit.kQ (N2:=KQ P C r B k .normal) h1 ?_) ?_
     ·rintro a' w' ⟨g',os',_,S',ι',⟨hR,σ,hc⟩,hinv'⟩
      obtain⟨ι2,hinv2⟩:=hinv'.uh hc
      grind
     ·intro e a' w' hq
      cases e<;>exact hq
    cases c with
    |skip=>exact wpIn_skip (ih k g os nx h S ι a w hinv)
    |seq x y=>exact wpIn_seq (ih _ g os nx h S ι a w hinv)
    |cond c x y=>
     simp only at h;split at h
     ·rename_i b hb
      have hv:=hinv.ev c
      rw[show(cz g os).g=bX g from rfl,hb]at hv
      rcases fH h with ⟨hbb,h'⟩|⟨hbb,h'⟩
      ·subst hbb
       exact wpIn_cond_true hv.dp (ih _ g os nx h' S ι a w hinv)
      ·subst hbb
       exact wpIn_cond_false hv.dp (ih _ g os nx h' S ι a w hinv)
     ·rename_i p hb
      have hv:=hinv.ev c
      rw[show(cz g os).g=bX g from rfl,hb]at hv
      obtain⟨b,hv,hp⟩:=hv.qD
      cases b with
      |true=>exact wpIn_cond_true hv (ih _ g os nx (h.1 (hp rfl)) S ι a w hinv)
      |false=>exact wpIn_cond_false hv (ih _ g os nx h.2 S ι a w hinv)
     simp_all
    |block id c=>exact wpIn_block (ih _ g os nx h S ι a w hinv)
    |exit id=>
     simp only at h;split at h
     ·rename_i k' hk
      exact wpIn_exit (QT hk (ih k' g os nx h S ι a w hinv))
     simp_all
    |ret=>exact wpIn_ret (PU (hfin C .refl g os h S ι _ a w hinv).2)
    |region id ops draw=>
     simp only at h
     rcases fH h with ⟨hdst,h'⟩|⟨_,h'⟩
     ·obtain⟨g',os',ext,hK,hlen,hch⟩:=RB (N:=C.N) ops.toList 0 g os [] _ (fun k o hk=>by simp_all) hdst rfl h'
      simp only[YE,Array.length_toList]at hK hlen hch
      have hchain:=hch (jW ext) (fun k _ _=>rfl)
      rw[Uu]at hchain
      cases draw with
      |false=>
       exact LP hm hchain (fun e=>by cases e) hinv (LU hdst) (fun S' ι' a' w' hinv'=>ih k g' os' _ (cast (kZ _ _) hK) S' ι' a' w' hinv')
      |true=>
       exact LP hm hchain (fun _=>hK.1) hinv (LU hdst) (fun S' ι' a' w' hinv'=>ih k g' os' _ (cast (kZ _ _) hK.2) S' ι' a' w' hinv')
     simp_all
    |loop body=>
     simp only at h
     obtain⟨α,gx,osx,nx',I,μ,x0,σ0,hI,hcov,hround⟩:=h
     refine Uk (fun m a w=>∃x S ι,I x∧μ x=m∧Inv C S ι (fun y=>nx'≤y) (cz (gx x) (osx x)) a w) ?_ (μ x0) a w ?_
     ·rintro m a w ⟨x,S,ι,hIx,rfl,hinv⟩
      have:=ih _ _ _ _ (hround x hIx) S ι a w hinv
      refine Exit.kQ this ?_
      rintro a' w' ⟨g',os',nx'',S',ι',⟨x',σ,hI',hlt,hc⟩,hinv'⟩
      obtain⟨ι2,hinv2⟩:=hinv'.uh hc
      grind
     ·obtain⟨ι2,hinv2⟩:=hinv.uh hcov
      grind
    |rangeFunc gop ps assign body=>
     simp only at h
     obtain⟨hno,hR⟩:=h
     simp only[Y9,Bool.not_eq_true']at hno
     obtain⟨hr0,hdf⟩:=hr hno.1
     subst hr0
     refine Sj hdf ?_ ?_ hR hinv
     ·intro C' lo b κ g1 os1 nx1 l hN hG hM hx S1 ι1 a1 w1 hi1
      have:=ihA (r:=some l) (C:=C') (fin:=fun _ _=>False) (B:=fun _ _ _=>False) (fun h=>by simp_all) (fun _ _ _ _ h=>h.elim) [.code (bif b then body else assign),.stop κ] g1 os1 nx1
       (by simp_all) S1 ι1 a1 w1 hi1
      exact this
     ·intro D g1 os1 nx1 hk hO S1 ι1 a1 w1 hi1
      rw[Hw (C':=C.fj D) hno.2]
      exact ihA (r:=none) (C:=C.fj D) (fun h=>by simp[Cx.fj]at h) (fun C' hto=>by
       cases hto with
       |refl=>exact hfin _ (.fj D hno.1 hO)
       |fj D' h' _=>simp[Cx.fj]at h') k g1 os1 nx1 hk S1 ι1 a1 w1 hi1
    |_=>grind
theorem Inv.fill{C:Cx}{S:Nat→Prop}{w:World}{ι:ax}{un:Nat→Prop}{f:FS}{a:Act}(h:Inv C S ι un f a w){o z:Nat}{fs:List (AV×List (List AV))}{i q:Nat}{k:AV}{rs:List (List AV)}
 (ho:f.os o=some (.bL z fs (some (i,q)))) (hq:f.os q=some (.rows true rs)) (hi:fs[i]? =some (k,rs)) (hl:∀row,row∈rs→row.length=z) (hz:0<z) (hne:q≠o):
 Inv C S ι un {f with os:=ay f.os [(o,some (.bL z fs none)),(q,none)]} a w:=by
 obtain⟨l,xs,clock,hlo,hheap,hlim,hF⟩:=h.ob o _ ho
 have hil:i<xs.size:=by rw[←hF.1];exact eZ hi
 obtain⟨x0,hx0⟩:∃x0,xs[i]? =some x0:=⟨_,YK hil⟩
 obtain⟨hV,hVb⟩:=ir.of hz hl ((hF.2.1 i _ x0 hi hx0).2.2 q rfl) (h.ob q _ hq)
 have hvq:∀b,fw x0.val=some b→b≠l.bd:=fun b hb e=>by
  obtain⟨lq,hlq,hb2⟩:=hVb b hb
  exact hne (h.inj q o _ _ hq ho rfl rfl lq l hlq hlo b (.inl hb2) (.inl e))
 have hhole:∀j,j≠i→(some (i,q):Option (Nat×Nat)).map (·.1)≠some j:=fun j hj=>by
  grind
 have hdist:∀(j:Nat) x b,xs[j]? =some x→j≠i→fw x.val=some b→fw x0.val=some b→False:=fun j x b hx hj hv hv0=>by
  obtain⟨lq,hlq,hb2⟩:=hVb b hv0
  exact hne (h.inj q o _ _ hq ho rfl rfl lq l hlq hlo b (.inl hb2) (DM hheap hx (hhole j hj) hv))
 have:=h.qh ho hlo hheap hlim (clock':=clock) (fs':=fs) (V:=[q]) (by grind) (fun j x hx=>?_) (fun w' hw hoth=>⟨hF.1,fun j e x he hx=>?_,fun j j' x x' b hx hx' _ _ hv hv'=>?_⟩)
 ·have hsame:({w with heap:=w.heap.setIfInBounds l.bd (.map xs clock)}:World)=w:=by
   have:w.heap.setIfInBounds l.bd (.map xs clock)=w.heap:=by
    apply Array.ext_getElem?;intro b
    by_cases hb:b=l.bd
    ·grind
    ·grind
   rw[this]
  simp_all
 ·by_cases hj:j=i
  ·subst hj
   rw[hx0]at hx;injection hx with hx;subst hx
   right;intro b hb
   obtain⟨lq,h1,h2⟩:=hVb b hb
   exact⟨q,lq,_,by simp,hq,rfl,h1,h2⟩
  grind
 ·obtain⟨g1,g2,g3⟩:=hF.2.1 j e x he hx
  refine⟨g1.mono (fun _ h=>h) hw,fun _=>?_,fun q hq=>by cases hq⟩
  by_cases hj:j=i
  ·subst hj
   rw[hx0]at hx;injection hx with hx;subst hx
   rw[hi]at he;injection he with he;subst he
   exact hV.mono (fun _ h=>h) hw (fun b hb=>hoth b (hvq b hb))
  ·exact(g2 (hhole j hj)).mono (fun _ h=>h) hw (fun b hb=>hoth b (hF.mT hheap hx (hhole j hj) hb))
 ·by_cases hj:j=i<;>by_cases hj':j'=i
  ·omega
  ·grind
  ·grind
  ·exact hF.2.2 j j' x x' b hx hx' (hhole j hj) (hhole j' hj') hv hv'
def Ir:Option AO→AO→Prop
 |some a,b=>fT a b
 |none,_=>False
theorem Ir.get{x:Option AO}{b:AO}(h:Ir x b):∃a,x=some a∧fT a b:=by
 cases x with
 |none=>exact h.elim
 |some a=>exact⟨a,rfl,h⟩
def tM(os:Os)(σ:Nat→Nat):Nat→Gr→Prop
 |_,[]=>True
 |k,(_,g)::r=>Ir (lk os (σ k)) (cC σ g.ao)∧tM os σ (k+1) r
theorem zj{os:Os}{σ:Nat→Nat}{k:Nat}{p:List Nat}{g:GO}{r:Gr}(a:AO)(h1:lk os (σ k)=some a)(h2:fT a (cC σ g.ao))(h3:tM os σ (k+1) r):tM os σ k ((p,g)::r):=
 ⟨by rw[h1];exact h2,h3⟩
theorem zi{os:Os}{σ:Nat→Nat}{k:Nat}:tM os σ k []:=trivial
theorem cQ{α:Type}{b:Bool}{X:Option α}{r:α}(h:cond b X none=some r):b=true∧X=some r:=by grind
theorem CP{α β R:Type}{X:Option (α⊕β)}{F:Option R}{D:α→Option R}{U:β→Option R}{r:R}{A:Prop}(h:Option.elim X F (fun x=>Sum.elim D U x)=some r)
 (h0:X=none→F=some r→A) (h1:∀d,X=some (.inl d)→D d=some r→A) (h2:∀u,X=some (.inr u)→U u=some r→A):A:=by
 match X,h,h0,h1,h2 with
 |none,h,h0,_,_=>simp_all
 |some (.inl d),h,_,h1,_=>simp_all
 |some (.inr u),h,_,_,h2=>simp_all
theorem Ke{os:Os}{σ:Nat→Nat}:∀{gs:Gr} {k:Nat},tM os σ k gs→∀(j:Nat) p g,gs[j]? =some (p,g)→∃x,lk os (σ (k+j))=some x∧fT x (cC σ g.ao)
 | [],_,_,j,p,g,h=>by simp at h
 |(p0,g0)::r,k,h,j,p,g,hj=>by
  cases j with
  |zero=>
   simp only[List.getElem?_cons_zero,Y2,Wv]at hj
   obtain⟨rfl,rfl⟩:=hj;exact h.1.get
  |succ j=>rw[show k+(j+1)=k+1+j by omega];exact Ke h.2 j p g (by simp_all)
inductive iF:Os→Os→Prop
 |nW (os:Os) (o i q:Nat) (es:List (AV×Gr)) (k:AV) (old gs:Gr) (V:List Nat) (os2:Os) (h1:lk os o=some (.bK es (some (i,q)))) (h2:es[i]? =some (k,old))
  (h3:(decide (V.length=gs.length)&&decide V.Nodup&&decide (o∉V)&&decide (V.getD 0 0=q))=true) (h4:tM os (fun n=>V.getD n 0) 0 gs) (h5:(jV gs&&um gs 0 gs&&mU gs.length gs)=true)
  (h:iF (gy os ((o,some (.bK (es.set i (k,gs)) none))::V.map fun q=>(q,none))) os2):iF os os2
 |refl (os:Os):iF os os
 |step (os:Os) (o z:Nat) (fs:List (AV×List (List AV))) (i q:Nat) (k:AV) (rs:List (List AV)) (os2:Os) (h1:lk os o=some (.bL z fs (some (i,q)))) (h2:lk os q=some (.rows true rs))
  (h3:fs[i]? =some (k,rs)) (h4:∀row,row∈rs→row.length=z) (h5:(decide (0<z)&&decide (q≠o))=true) (h:iF (gy os [(o,some (.bL z fs none)),(q,none)]) os2):iF os os2
theorem Inv.ql{C:Cx}{S:Nat→Prop}{w:World}{ι:ax}{un:Nat→Prop}{g:Tm}{os os2:Os}(hF:iF os os2){a:Act}(h:Inv C S ι un (cz g os) a w):Inv C S ι un (cz g os2) a w:=by
 induction hF with
 |refl os=>exact h
 |nW os o i q es k old gs V os2 h1 h2 h3 h4 h5 _ ih=>
  simp only[Y9,Yx]at h3
  refine ih ?_
  have:=h.Am h1 h2 h3.1.1.1 h3.1.1.2 h3.1.2 h3.2 (fun j p g hj=>by have:=Ke h4 j p g hj;rw[YS]at this;exact this) h5
  unfold cz at this⊢;rw[AL];exact this
 |step os o z fs i q k rs os2 h1 h2 h3 h4 h5 _ ih=>
  simp only[Y9,Yx]at h5
  refine ih ?_
  have:=h.fill h1 h2 h3 h4 h5.1 h5.2
  unfold cz at this⊢;rw[AL];exact this
theorem AR{α:Type}{l:List α}{k:Nat}{z:α}(h:l[k]? =some z):l.drop k=z::l.drop (k+1):=by
 have hk:=eZ h
 rw[W7 hk];simp_all
theorem KF{α:Type}(l:List α):l.reverse.drop l.length=[]:=by simp
theorem both{b:Bool}{A:Prop}(t:b=true→A)(f:b=false→A):A:=by grind
def dT{κ ν:Type}(ek:κ→AV)(en:ν→List AV)(L:List (κ×List ν)):List (AV×List (List AV)):=L.map fun p=>(ek p.1,p.2.map en)
def fc{κ ν:Type}(ek:κ→AV)(gN:ν→Gr)(L:List (κ×ν)):List (AV×Gr):=L.map fun p=>(ek p.1,gN p.2)
def dI{κ ν:Type}[DecidableEq κ](q:κ):List (κ×ν)→List (κ×ν)
 | []=>[]
 |e::r=>if q=e.1 then r else e::dI q r
section
variable {P:Program}{t kt:TypeId}{κ ν:Type}[DecidableEq κ]{ek:κ→AV}{en:ν→List AV}
omit [DecidableEq κ]in
theorem SJ(L:List (κ×List ν)):eU (dT ek en L)=fb ek (fun _:List ν=>AV.undef) L:=by simp[eU,dT,fb]
theorem findF(heq:∀a b,cY P kt (ek a) (ek b)=some (decide (a=b)))(q:κ)(L:List (κ×List ν)):fQ P kt (ek q) (eU (dT ek en L)) 0 (mix q L):=by
 have h1:=xE (en:=fun _:List ν=>AV.undef) heq q L 0
 rw[show(fun x:Nat=>x+0)=id from rfl,Vo,id]at h1
 rw[SJ];exact h1
theorem AS{q:κ}{L:List (κ×List ν)}(h:(ak q L).isSome=true):mix q L=some ((mix q L).getD 0)∧∃k,(dT ek en L)[(mix q L).getD 0]? =some (k,((ak q L).getD []).map en):=by
 rcases uv q L with ⟨_,h3⟩|⟨j,e,h2,h3,h4⟩
 ·simp_all
 ·refine⟨by grind,ek e.1,?_⟩
  rw[h2,h4];simp[dT,h3]
theorem Rj{q:κ}{L:List (κ×List ν)}(h:(ak q L).isSome=false):mix q L=none:=by
 rcases uv q L with ⟨h2,_⟩|⟨j,e,_,_,h4⟩
 all_goals simp_all
theorem KZ(q:κ)(x:List ν):∀(L:List (κ×List ν)),iS (dT ek en L) (mix q L) (ek q) (x.map en)=dT ek en (bw q x L)
 | []=>rfl
 |e::r=>by
  by_cases h:q=e.1
  ·simp[mix,h,iS,dT,bw]
  ·have:=KZ q x r
   simp only[mix,h,Yc,bw]
   cases hm:mix q r with
   |none=>rw[hm]at this;simp only[iS,Option.map_none,dT,Yp,YJ]at this⊢;rw[this]
   |some j=>rw[hm]at this;simp only[iS,Yo,dT,Yp,List.set_cons_succ]at this⊢;rw[this]
theorem K6(q:κ):∀(L:List (κ×List ν)),kE (dT ek en L) (mix q L)=dT ek en (dI q L)
 | []=>rfl
 |e::r=>by
  by_cases h:q=e.1
  ·simp[mix,h,kE,dT,dI]
  ·have:=K6 q r
   simp only[mix,h,Yc,dI]
   cases hm:mix q r with
   |none=>rw[hm]at this;simp only[kE,Option.map_none,dT,Yp]at this⊢;rw[this]
   |some j=>rw[hm]at this;simp only[kE,Yo,dT,Yp,List.eraseIdx_cons_succ]at this⊢;rw[this]
theorem SK{α β:Type}{ek:α→AV}{gN:β→Gr}(L:List (α×β)):fC (fc ek gN L)=fb ek (fun _:β=>AV.undef) L:=by simp[fC,fc,fb]
theorem JG{q:κ}{L:List (κ×ν)}(h:ak q L=none):mix q L=none:=by
 rcases uv q L with ⟨h2,_⟩|⟨j,e,_,_,h4⟩
 all_goals simp_all
theorem nX{gN:ν→Gr}(heq:∀a b,cY P kt (ek a) (ek b)=some (decide (a=b)))(q:κ)(L:List (κ×ν)):fQ P kt (ek q) (fC (fc ek gN L)) 0 (mix q L):=by
 have h1:=xE (en:=fun _:ν=>AV.undef) heq q L 0
 rw[show(fun x:Nat=>x+0)=id from rfl,Vo,id]at h1
 rw[SK];exact h1
theorem F9{gN:ν→Gr}{q:κ}{L:List (κ×ν)}{x:ν}(h:ak q L=some x):mix q L=some ((mix q L).getD 0)∧∃k,(fc ek gN L)[(mix q L).getD 0]? =some (k,gN x):=by
 rcases uv q L with ⟨_,h3⟩|⟨j,e,h2,h3,h4⟩
 ·simp_all
 ·rw[h]at h4;injection h4 with h4;subst h4
  refine⟨by grind,ek e.1,?_⟩
  rw[h2];simp[fc,h3]
theorem Kv{gN:ν→Gr}(q:κ)(x:ν):∀(L:List (κ×ν)),(ak q L).isSome=true→∀k,(∃g,(fc ek gN L)[(mix q L).getD 0]? =some (k,g))→(fc ek gN L).set ((mix q L).getD 0) (k,gN x)=fc ek gN (bw q x L)
 | [],h,_,_=>by cases h
 |e::r,h,k,hk=>by
  by_cases hq:q=e.1
  ·simp only[mix,hq,Yi,Yv,fc,Yp,List.getElem?_cons_zero,Y2,Wv]at hk
   obtain⟨g,rfl,_⟩:=hk
   simp[mix,hq,fc,bw]
  ·have h':(ak q r).isSome=true:=by simpa[ak,hq]using h
   have hm:mix q r=some ((mix q r).getD 0):=by
    rcases uv q r with ⟨h2,h3⟩|⟨j,e',h2,_,_⟩
    ·simp_all
    ·grind
   have hs:mix q (e::r)=some ((mix q r).getD 0+1):=by simp only[mix,hq,Yc];rw[hm];rfl
   rw[hs]at hk⊢
   simp only[Yv,fc,Yp,List.getElem?_cons_succ,List.set_cons_succ,bw,hq,Yc]at hk⊢
   rw[←fc,←fc,Kv q x r h' k hk]
theorem uE{gN:ν→Gr}{ok:Bool}{k:AV}{o id:Nat}{es:List (AV×Gr)}{K:AV→List (Nat×Option AO)→List Nat→Prop}(L:List (κ×ν))(q:κ)(x:ν)(hes:es=fc ek gN L)(hk:k=ek q)
 (heq:∀a b,cY P kt (ek a) (ek b)=some (decide (a=b))) (hs:ak q L=some x) (gs:Gr) (hg:gN x=gs) (hW:Nat.ble gs.length W=true)
 (hK:K (if ok then .bN [.ptr id 0 0,.bool true]else .ptr id 0 0) (oW id (rB 0 gs)++[(o,some (.bK (fc ek gN L) (some ((mix q L).getD 0,id))))]) []):
 oz P t kt ok k o es none id K:=by
 subst hes;subst hk;subst hg
 obtain⟨h1,k,h2⟩:=F9 (ek:=ek) (gN:=gN) hs
 exact⟨.inl ⟨_,_,rfl,h1▸nX heq q L,h2,W5 hW,hK⟩⟩
theorem DJ{gN:ν→Gr}{ok:Bool}{k:AV}{o id qo:Nat}{es:List (AV×Gr)}{K:AV→List (Nat×Option AO)→List Nat→Prop}(L:List (κ×ν))(q q':κ)(hes:es=fc ek gN L)(hk:k=ek q)
 (heq:∀a b,cY P kt (ek a) (ek b)=some (decide (a=b))) (hqq:(decide (q=q')&&(ak q' L).isSome)=true)
 (hK:K (if ok then .bN [.ptr qo 0 0,.bool true]else .ptr qo 0 0) [] [o]):
 oz P t kt ok k o es (some ((mix q' L).getD 0,qo)) id K:=by
 subst hes;subst hk;rw[Y9]at hqq
 obtain rfl:=YI hqq.1
 obtain⟨x,hx⟩:=YW.1 hqq.2
 exact⟨.inr (.inl ⟨_,_,rfl,(F9 (ek:=ek) (gN:=gN) hx).1▸nX heq q L,hK⟩)⟩
theorem DH{gN:ν→Gr}{ok:Bool}{k:AV}{o id:Nat}{es:List (AV×Gr)}{h:Option (Nat×Nat)}{K:AV→List (Nat×Option AO)→List Nat→Prop}(L:List (κ×ν))(q:κ)(v:AV)(hes:es=fc ek gN L)(hk:k=ek q)
 (heq:∀a b,cY P kt (ek a) (ek b)=some (decide (a=b))) (hs:ak q L=none) (hz:∃vt zv,fX P t=some vt∧zeroV P vt=some zv∧Wk zv v)
 (hK:K (if ok then .bN [v,.bool false]else v) [] [o]):oz P t kt ok k o es h id K:=by
 subst hes;subst hk
 have h1:mix q L=none:=JG hs
 exact⟨.inr (.inr ⟨v,h1▸nX heq q L,hz,hK⟩)⟩
theorem v8{q:κ}{x:ν}:∀{L:List (κ×ν)},ak q L=none→bw q x L=L++[(q,x)]∧mix q (L++[(q,x)])=some L.length
 | [],_=>⟨rfl,by simp[mix]⟩
 |e::r,h=>by
  by_cases hq:q=e.1
  ·simp[ak,hq]at h
  ·simp only[ak,hq,Yc]at h
   obtain⟨h1,h2⟩:=v8 (x:=x) h
   exact⟨by simp only[bw,hq,Yc,h1,YJ],by simp only[YJ,mix,hq,Yc,h2,Yo,Ye]⟩
theorem JC{gN:ν→Gr}{k v:AV}{o:Nat}{es:List (AV×Gr)}{K:List (Nat×Option AO)→Prop}(L:List (κ×ν))(q:κ)(x:ν)(qo:Nat)(hes:es=fc ek gN L)(hk:k=ek q)
 (heq:∀a b,cY P kt (ek a) (ek b)=some (decide (a=b))) (hs:(!(ak q L).isSome&&Nat.blt L.length bm)=true) (hv:v=.ptr qo 0 0)
 (hK:K [(o,some (.bK (fc ek gN (bw q x L)) (some ((mix q (bw q x L)).getD 0,qo))))]):xd P kt k v o es none K:=by
 subst hes;subst hk;rw[Y9]at hs
 have hl:L.length+1≤bm:=W5 hs.2
 have hs:ak q L=none:=by
  have:=hs.1
  cases h:ak q L with
  |none=>rfl
  |some y=>simp_all
 obtain⟨h1,h2⟩:=v8 (x:=x) hs
 refine⟨qo,gN x,rfl,?_,by simpa[fc]using hl,hv,?_⟩
 ·have:=nX (gN:=gN) heq q L
  have h3:mix q L=none:=JG hs
  simp_all
 ·rw[h1,h2]at hK
  simpa[fc]using hK
theorem QE{gN:ν→Gr}{os os2:Os}{o qo:Nat}(L:List (κ×ν))(q:κ)(x:ν)(V:List Nat)(gs:Gr)(h1:lk os o=some (.bK (fc ek gN L) (some ((mix q L).getD 0,qo))))(hs:(ak q L).isSome=true)(hg:gN x=gs)
 (h3:(decide (V.length=gs.length)&&decide V.Nodup&&decide (o∉V)&&decide (V.getD 0 0=qo))=true) (h4:tM os (fun n=>V.getD n 0) 0 gs) (h5:(jV gs&&um gs 0 gs&&mU gs.length gs)=true)
 (h:iF (gy os ((o,some (.bK (fc ek gN (bw q x L)) none))::V.map fun q=>(q,none))) os2):iF os os2:=by
 subst hg
 obtain⟨y,hy⟩:=YW.1 hs
 obtain⟨_,k,h2⟩:=F9 (ek:=ek) (gN:=gN) hy
 refine .nW os o _ qo _ k _ (gN x) V os2 h1 h2 h3 h4 h5 ?_
 rw[Kv q x L hs k ⟨_,h2⟩];exact h
theorem Lj{en:ν→AV}(q:κ):∀(L:List (κ×ν)),kF (fb ek en L) (mix q L)=fb ek en (dI q L)
 | []=>rfl
 |e::r=>by
  by_cases h:q=e.1
  ·simp[mix,h,kF,fb,dI]
  ·have:=Lj (en:=en) q r
   simp only[mix,h,Yc,dI]
   cases hm:mix q r with
   |none=>rw[hm]at this;simp only[kF,Option.map_none,fb,Yp]at this⊢;rw[this]
   |some j=>rw[hm]at this;simp only[kF,Yo,fb,Yp,List.eraseIdx_cons_succ]at this⊢;rw[this]
theorem PE{en:ν→AV}{es:List (AV×AV)}{k:AV}{p:Bool}{K:AO→Prop}(L:List (κ×ν))(q:κ)(hes:es=fb ek en L)(hk:k=ek q)
 (heq:∀a b,cY P kt (ek a) (ek b)=some (decide (a=b))) (hK:K (.aw p (fb ek en (dI q L)))):Ce P kt es k p K:=by
 subst hes;subst hk
 have h1:=xE (en:=en) heq q L 0
 rw[show(fun x:Nat=>x+0)=id from rfl,Vo,id]at h1
 exact⟨_,h1,by rw[Lj];exact hK⟩
theorem xV{ok:Bool}{k:AV}{o z id:Nat}{fs:List (AV×List (List AV))}{K:AV→List (Nat×Option AO)→List Nat→Prop}(L:List (κ×List ν))(q:κ)(hfs:fs=dT ek en L)(hk:k=ek q)
 (heq:∀a b,cY P kt (ek a) (ek b)=some (decide (a=b))) (hs:(ak q L).isSome=true)
 (hK:K (if ok then .bN [.an id z,.bool true]else .an id z) [(id,some (.rows true (((ak q L).getD []).map en))),(o,some (.bL z (dT ek en L) (some ((mix q L).getD 0,id))))] []):
 oA P t kt ok k o z fs none id K:=by
 subst hfs;subst hk
 obtain⟨h1,k,h2⟩:=AS (ek:=ek) (en:=en) hs
 exact⟨.inl ⟨_,_,rfl,h1▸findF heq q L,h2,hK⟩⟩
theorem xU{ok:Bool}{k:AV}{o z id:Nat}{fs:List (AV×List (List AV))}{h:Option (Nat×Nat)}{K:AV→List (Nat×Option AO)→List Nat→Prop}(L:List (κ×List ν))(q:κ)(v:AV)(hfs:fs=dT ek en L)(hk:k=ek q)
 (heq:∀a b,cY P kt (ek a) (ek b)=some (decide (a=b))) (hs:(ak q L).isSome=false) (hz:∃vt zv,fX P t=some vt∧zeroV P vt=some zv∧Wk zv v)
 (hK:K (if ok then .bN [v,.bool false]else v) [] [o]):oA P t kt ok k o z fs h id K:=by
 subst hfs;subst hk;exact⟨.inr (.inr ⟨v,Rj hs▸findF heq q L,hz,hK⟩)⟩
theorem Th{k:AV}{o z id:Nat}{fs:List (AV×List (List AV))}{h:Option (Nat×Nat)}{K:AV→List (Nat×Option AO)→List Nat→Prop}(L:List (κ×List ν))(q:κ)(hfs:fs=dT ek en L)(hk:k=ek q)
 (heq:∀a b,cY P kt (ek a) (ek b)=some (decide (a=b))) (hz:∃vt zv,fX P t=some vt∧zeroV P vt=some zv)
 (hK:K (.bN [.undef,.bool (ak q L).isSome]) [] [o]):oA P t kt true k o z fs h id K:=by
 subst hfs;subst hk
 refine⟨.inr (.inl ⟨mix q L,rfl,findF heq q L,hz,?_⟩)⟩
 have:(mix q L).isSome=(ak q L).isSome:=by
  rcases uv q L with ⟨h2,h3⟩|⟨j,e,h2,h3,h4⟩
  ·simp_all
  ·simp_all
 simp_all
theorem vR{k v:AV}{o z:Nat}{fs:List (AV×List (List AV))}{h:Option (Nat×Nat)}{ol:Nat→Option AO}{K:List (Nat×Option AO)→Prop}(L:List (κ×List ν))(q:κ)(x:List ν)(qo:Nat)(hfs:fs=dT ek en L)(hk:k=ek q)
 (heq:∀a b,cY P kt (ek a) (ek b)=some (decide (a=b))) (hh:h=none∨((ak q L).isSome=true∧h.map (·.1)=some ((mix q L).getD 0))) (hl:L.length+1≤bm) (hv:v=.an qo z) (rs:List (List AV)) (hol:ol qo=some (.rows true rs))
 (hrs:rs=x.map en) (hw:∀y,(en y).length=z) (hz:(decide (0<z)&&decide (qo≠o))=true) (hK:K [(o,some (.bL z (dT ek en (bw q x L)) none)),(qo,none)]):xe P kt k v o z fs h ol K:=by
 subst hfs;subst hk;subst hrs;simp only[Y9,Yx]at hz
 refine⟨mix q L,qo,_,findF heq q L,?_,by simpa[dT]using hl,hv,hol,fun row hr=>?_,hz.1,hz.2,by rw[KZ];exact hK⟩
 ·rcases hh with rfl|⟨h1,h2⟩
  ·exact .inl rfl
  ·cases h with
   |none=>cases h2
   |some e=>
    obtain⟨i,q0⟩:=e
    simp only[Yo,Y2]at h2
    exact .inr ⟨i,q0,rfl,by rw[(AS (ek:=ek) (en:=en) h1).1,h2]⟩
 grind
theorem Jz{k:AV}{o z:Nat}{fs:List (AV×List (List AV))}{h:Option (Nat×Nat)}{K:List (Nat×Option AO)→Prop}(L:List (κ×List ν))(q:κ)(hfs:fs=dT ek en L)(hk:k=ek q)
 (heq:∀a b,cY P kt (ek a) (ek b)=some (decide (a=b))) (hh:h=none∨((ak q L).isSome=true∧h.map (·.1)=some ((mix q L).getD 0)))
 (hK:K [(o,some (.bL z (dT ek en (dI q L)) none))]):Cg P kt k o z fs h K:=by
 subst hfs;subst hk
 refine⟨mix q L,findF heq q L,?_,by rw[K6];exact hK⟩
 rcases hh with rfl|⟨h1,h2⟩
 ·exact .inl rfl
 ·cases h with
  |none=>cases h2
  |some e=>
   obtain⟨i,q0⟩:=e
   simp only[Yo,Y2]at h2
   exact .inr ⟨i,q0,rfl,by rw[(AS (ek:=ek) (en:=en) h1).1,h2]⟩
end
def gV:List AV→Nat→Tm
 | [],_=>[]
 |x::r,i=>(i,x)::gV r (i+1)
def lv(P:Program)(g:Tm)(os:Os):List ResultVar→Option (List AV)
 | []=>some []
 |.tmp t::r=>(lv P g os r).map (bX g t:: ·)
 |.cell a t::r=>match bX g a with
  |.ptr o i c=>match iA (lk os) o with
   |some rs=>match rs[i]? with
    |some row=>match ng P t row c with
     |some v=>(lv P g os r).map (v:: ·)
     |none=>none
    |none=>none
   |none=>none
  |_=>none
def one(l:List AV):AV:=
 match l with
 | [v]=>v
 |l=>.bN l
def sN(P:Program)(rs:List ResultVar)(Qr:AV→Prop)(g:Tm)(os:Os):Prop:=
 opt (lv P g os rs) fun vs=>opt (ft (os.map (·.1)) (lk os) 8 (one vs)) fun rv=>ic rv fun rv=>Qr rv
theorem TN:∀(l:List AV) (i t:Nat),bX (gV l i) t=if i≤t∧t<i+l.length then l.getD (t-i) .undef else .undef:=by
 intro l
 induction l with
 |nil=>intro i t;simp[gV,bX]
 |cons x r ih=>
  intro i t;simp only[gV,bX]
  grind
theorem PN{P:Program}{C:Cx}{S:Nat→Prop}{ι:ax}{un:Nat→Prop}{g:Tm}{os:Os}{a:Act}{w:World}(h:Inv C S ι un (cz g os) a w):
 ∀(rs:List ResultVar) (vs:List AV),lv P g os rs=some vs→
  ∃us:List Value,(rs.mapM (fun r=>match r with|.tmp t=>pure (a.tmps.getD t undef)|.cell x t=>do loadVar t (←asAddr (a.tmps.getD x undef)):ResultVar→Sem Value)).run P w=.ok us w∧
   az S w ι vs us:=by
 intro rs
 induction rs with
 |nil=>intro vs hv;simp only[lv,Y2]at hv;subst hv;exact⟨[],rfl,.nil⟩
 |cons r rs ih=>
  intro vs hv
  cases r with
  |tmp t=>
   simp only[lv,Yj]at hv
   obtain⟨vs',h1,rfl⟩:=hv
   obtain⟨us,h2,h3⟩:=ih vs' h1
   refine⟨a.tmps.getD t undef::us,?_,az.cons (h.tm t) h3⟩
   simp_all
  |cell x t=>
   simp only[lv]at hv;split at hv
   ·rename_i o i c hx
    split at hv
    ·rename_i rws hr
     split at hv
     ·rename_i row hrow
      split at hv
      ·rename_i v hl
       simp only[Yj]at hv
       obtain⟨vs',h1,rfl⟩:=hv
       obtain⟨us,h2,h3⟩:=ih vs' h1
       have ht:=h.tm x
       rw[show(cz g os).g x=bX g x from rfl,hx]at ht
       obtain⟨l,hl1,hv⟩:=ht.cZ
       obtain⟨y,hy,hy'⟩:=wq hr
       rcases xF (h.ob o y hy) hy' with ⟨q,rfl⟩|⟨l',vals,q,hcnt,hat,hrep⟩
       ·grind
       ·rw[q]at hl1;injection hl1 with hl1;injection hl1 with hl1;subst hl1
        have hi:=eZ hrow
        obtain⟨v',h4,h5⟩:=DL (P:=P) (b0:=l'.base+i*l'.bo) (hrep _ _ hrow) (fun j v hv=>by
         have:=hat.2.2 i j v hi hv
         rw[←WB]at this;exact this) hl
        refine⟨v'::us,?_,az.cons h5 h3⟩
        rw[←WB]at hv
        have ha:(asAddr (a.tmps.getD x undef)).run P w=.ok ⟨l'.bd,l'.base+i*l'.bo+c,none⟩ w:=by rw[hv];rfl
        simp_all
      grind
     grind
    grind
   grind
theorem HT{P:Program}{C:Cx}{S:Nat→Prop}{ι:ax}{un:Nat→Prop}{g:Tm}{os:Os}{a:Act}{w:World}(h:Inv C S ι un (cz g os) a w)
 {fn:Func} {vs:List AV} (hv:lv P g os fn.results.toList=some vs):∃v,(results fn a.tmps).run P w=.ok v w∧bP S w ι (one vs) v:=by
 obtain⟨us,h1,h2⟩:=PN (P:=P) h fn.results.toList vs hv
 have hrun:(results fn a.tmps).run P w=.ok (if h:us.toArray.size=1 then us.toArray[0]else .tuple us.toArray) w:=by
  unfold results;rw[Y7,Array.mapM_eq_mapM_toList];simp only[Sem.run_map];generalize hX:Sem.run P (List.mapM _ fn.results.toList) w=X
  have:X=.ok us w:=by rw[←hX];exact h1
  rw[this];simp only[Result.andThen_ok,Sem.run_pure]
 refine⟨_,hrun,?_⟩
 have hlen:=h2.1
 unfold one;split
 ·rename_i v
  have:us.length=1:=by rw[←hlen];rfl
  obtain⟨u,rfl⟩:=List.length_eq_one_iff.1 this
  simp only[List.size_toArray,List.length_singleton,dite_true];exact h2.2 0 v u rfl rfl
 ·rename_i hne
  have:us.length≠1:=by
   intro e;rw[←hlen]at e
   obtain⟨u,rfl⟩:=List.length_eq_one_iff.1 e
   exact hne u rfl
  rw[dif_neg (by omega)]
  exact az.jQ (by omega)
theorem Hu{G:db}{fn:Func}{args:List AV}{S0:Nat→Prop}{ι0:ax}{w0:World}{vs:Array Value}{oin:Os}(hsz:args.length≤fn.ntmps)
 (h0:∀b,S0 b→b<w0.heap.size) (hG:ow G S0 w0) (hob:jG (dx w0 ι0 oin) S0 w0 ι0 (lk oin)) (hι:∀o,oin.length≤o→ι0 o=none) (hW:oin.length≤W) (him:∀j L,ι0 j=some L→j<oin.length) (hL:az S0 w0 ι0 args vs.toList):
 Inv ⟨G,w0,⟨0,fn.ntmps,false⟩,dx w0 ι0 oin,S0,oin.length,ι0,him,fun _=>undef,[],[]⟩ S0 ι0 (fun x=>W≤x) (cz (gV args 0) oin) {tmps:=vs++Array.replicate (fn.ntmps-vs.size) undef,defers:=[]} w0:=by
 have hlen:=hL.1
 simp only[Array.length_toList]at hlen
 refine⟨fun t=>?_,?_,⟨rfl,fun t ht=>absurd ht (W9 t),fun q hq=>(by cases hq)⟩,hob.ob,hob.own,hob.inj,h0,fun b hb=>.inl hb,fun o ho=>hι o (YZ hW ho),⟨rfl,rfl,Yg _,fun b _ _=>rfl⟩,fun b hb=>.inl hb,hG,fun b hb=>hb,fun j L e=>e⟩
 ·show bP S0 w0 ι0 (bX (gV args 0) t) _
  rw[TN];split
  ·rename_i ht
   have ht':t<args.length:=by omega
   have hx:args[t]? =some args[t]:=Y3 ht'
   have hv:vs.toList[t]? =some vs[t]:=by simp
   have e1:args.getD (t-0) .undef=args[t]:=by simp[W6,hx]
   have e2:(vs++Array.replicate (fn.ntmps-vs.size) undef).getD t undef=vs[t]:=by
    rw[YU,Array.getElem?_append_left (by omega)]
    simp[show t<vs.size by omega]
   rw[e1,e2];exact hL.2 t _ _ hx hv
  ·exact .bI _ _ (.undef _)
 simp_all
theorem AN{P:Program}{G:db}{f:Nat}{oin:List (Nat×AO)}{args args':List AV}{rv:AV}{os':List (Nat×AO)}(hw:ep args args')(h:FC P G f oin args' rv os'):FC P G f oin args rv os':=
 ⟨h.1,h.2.1,fun S0 ι0 w0 vs h0 hG hob hι hL=>h.2.2 S0 ι0 w0 vs h0 hG hob hι (hw.u5 hL)⟩
theorem Hz{P:Program}{C:Cx}{f:Nat}{fn:Func}{c:Code}{vs:Array Value}{R:Ending→World→Prop}{fin:Tm→Os→Prop}{fuel:Nat}{g:Tm}{os:Os}{nx:Nat}{S:Nat→Prop}{ι:ax}{w0:World}
 (hm:P.follows .mixedOrders=true) (hf:P.funcs[f]? =some fn) (hb:fn.body=some c) (hC:C.dfs=[]∧C.qb=[])
 (hinv:Inv C S ι (fun x=>nx≤x) (cz g os) {tmps:=vs++Array.replicate (fn.ntmps-vs.size) undef,defers:=[]} w0)
 (h:dL P C.G C.N C.m fin fuel [.code c] g os nx)
 (hfin:∀N dfs qb,∀g os,fin g os→∀S ι un a w,Inv {C with N:=N,dfs:=dfs,qb:=qb} S ι un (cz g os) a w→∃v,(results fn a.tmps).run P w=.ok v w∧R (.returned v) w):Calls P f vs w0 R:=by
 refine callsIn_wide.1 (callsIn_of_wp_marks (F:=Fence.wide) (n:=0) hf hb trivial ?_)
 refine Ue (r:=none) (B:=bodyPostM Fence.wide 0 P fn R) hm fuel (fun _=>⟨rfl,hC⟩) ?_ [.code c] _ _ _ h S ι _ w0 hinv
 intro C' hto g os hfn S ι un a w hi
 have key:LeavesInM Fence.wide 0 P fn a.tmps R a.defers .returning w:=by
  cases hto with
  |refl=>
   rw[hi.df.1,hC.1];exact hfin C.N C.dfs C.qb g os hfn S ι un a w hi
  |fj D hno hO=>
   have hd:a.defers=[mark D]:=hi.df.1
   obtain⟨hS,hD⟩:=hi.df.2.2 (D,.deferred (some [])) (by simp[Cx.fj])
   have hi2:=hi.sd (o':=.deferred none) (a':=a) (dfs:=a.defers) (qb:=[]) hS hO hD rfl rfl rfl rfl (fun q hq=>by cases hq)
   rw[hd]
   refine⟨by simp,.inl ⟨D,_,rfl,run_takeDeferred hD,?_⟩⟩
   exact hfin _ a.defers [] g os hfn S ι un a _ hi2
 exact⟨key,key⟩
theorem Ch{P:Program}{G:db}{f:Nat}{fn:Func}{c:Code}{args:List AV}{rv:AV}(fuel:Nat)(hf:P.funcs[f]? =some fn)(hb:fn.body=some c)
 (hn:eF P f=true) (hm:P.follows .mixedOrders=true) (hsz:args.length≤fn.ntmps)
 (h:dL P G ⟨0,fn.ntmps,false⟩ 0 (sN P fn.results.toList fun r=>r=rv) fuel [.code c] (gV args 0) [] W):FC P G f [] args rv []:=by
 refine⟨hn,fun o x hx=>by simp[lk]at hx,fun S0 ι0 w0 vs h0 hG hob hι hL=>?_⟩
 have him:∀j L,ι0 j=some L→j<([]:Os).length:=fun j L e=>by simp_all
 have hinv:=Hu (fn:=fn) hsz h0 hG hob hι (YC _) him hL
 refine Hz hm hf hb ⟨rfl,rfl⟩ hinv h ?_
 intro N dfs qb g os hfin S ι un a w hi
 obtain⟨rs,hrs,h2⟩:=bh hfin
 obtain⟨rv',hrv,h3⟩:=bh h2
 rw[lb]at h3;subst h3
 obtain⟨v,hv1,hv2⟩:=HT (P:=P) hi hrs
 have hcl:=wk hi.ob 8 _ _ _ hv2 hrv
 have hR:∃v' S' ι',Ending.returned v=.returned v'∧Fr (dx w0 ι0 []) w0 w∧(∀b,S' b→(S0 b∨dx w0 ι0 [] b)∧b<w.heap.size)∧(∀b,S0 b→S' b)∧ι0.le ι'∧
  (∀o,W≤o→ι' o=none)∧bP S' w ι' rv' v'∧jG (dx w0 ι0 []) S' w ι' (lk []):=by
  refine⟨v,SV S ι (cz g os).os (os.map (·.1)),ι0,rfl,hi.fr,fun b hb=>⟨?_,mH hi _ b hb⟩,?_,ax.le_refl _,fun o _=>hι o (YC _),.bI _ _ hcl,
   ⟨fun o x hx=>by simp[lk]at hx,fun o x hx=>by simp_all,fun o o' x x' hx=>by simp_all⟩⟩
  ·rcases hb with hb|⟨o,x,l,_,hx,hl,rfl⟩
   ·exact hi.sn b hb
   ·by_cases hlv:x.live=true
    ·exact .inr (hi.own o x hx hlv l hl _ (.inl rfl)).1
    ·have hob2:=hi.ob o x hx
     cases x with
     |cT rs=>
      rcases hob2 with ⟨q,_⟩|⟨l',vals,q,_,hS,_⟩
      ·simp_all
      ·rw[q]at hl;injection hl with hl;injection hl with hl;subst hl
       exact hi.sn _ hS
     |rows p rs=>exact absurd rfl hlv
     |aw p es=>exact absurd rfl hlv
     |bL z fs hh=>exact absurd rfl hlv
     |bK es hh=>exact absurd rfl hlv
     |lit rs=>exact absurd rfl hlv
  ·exact fun b hb=>.inl (hi.s0 b hb)
 simp_all
def Aq(P:Program)(rs:List ResultVar)(_m:Nat)(Qr:AV→Os→Prop)(g:Tm)(os:Os):Prop:=
 opt (lv P g os rs) fun vs=>ic (one vs) fun v=>fO os fun os=>Qr v os
structure jd(m:Nat)(rv:AV)(os':Os)(v:AV)(os:Os):Prop where
 h:∃os2 σ,iF os os2∧jL m [(0,v)] os2 σ [(0,rv)] os' W
theorem kG{m:Nat}{rv:AV}{os':Os}{v:AV}{os:Os}(σ:List (Nat×Nat))(h2:cd (ap σ) rv=v)
 (h3:os'.map (fun e=>some (cC (ap σ) e.2))=os'.map fun e=>lk os (ap σ e.1))
 (h1:(eS W rv&&os'.all (fun e=>decide (e.1<W)&&cE W e.2)&&decide ((os'.map fun e=>ap σ e.1).Nodup)&&decide (m≤W)&&(List.range m).all (fun j=>ap σ j==j))=true):
 jd m rv os' v os:=⟨os,σ,.refl os,by grind,.of_eq (by simp[bX,h2]),.of_eq h3⟩
theorem Py{m:Nat}{rv:AV}{os':Os}{v:AV}{os:Os}(σ:List (Nat×Nat))(h2:Wk v (cd (ap σ) rv))
 (h3:du (os'.map fun e=>lk os (ap σ e.1)) (os'.map fun e=>some (cC (ap σ) e.2)))
 (h1:(eS W rv&&os'.all (fun e=>decide (e.1<W)&&cE W e.2)&&decide ((os'.map fun e=>ap σ e.1).Nodup)&&decide (m≤W)&&(List.range m).all (fun j=>ap σ j==j))=true):
 jd m rv os' v os:=⟨os,σ,.refl os,by grind,by simpa[bX,ep]using h2,h3⟩
theorem Gq{m:Nat}{rv:AV}{os':Os}{v:AV}{os os2:Os}(hF:iF os os2)(h:jd m rv os' v os2):jd m rv os' v os:=by
 obtain⟨os3,σ,h1,h2⟩:=h.h
 refine⟨os3,σ,?_,h2⟩
 clear h2 h
 induction hF with
 |refl=>exact h1
 |step os o z fs i q k rs os2 g1 g2 g3 g4 g5 _ ih=>exact .step os o z fs i q k rs os3 g1 g2 g3 g4 g5 (ih h1)
 |nW os o i q es k old gs V os2 g1 g2 g3 g4 g5 _ ih=>exact .nW os o i q es k old gs V os3 g1 g2 g3 g4 g5 (ih h1)
theorem lW{P:Program}{G:db}{f:Nat}{fn:Func}{c:Code}{oin:Os}{args:List AV}{rv:AV}{os':Os}(fuel:Nat)(hf:P.funcs[f]? =some fn)(hb:fn.body=some c)
 (hn:eF P f=true) (hm:P.follows .mixedOrders=true) (hsz:args.length≤fn.ntmps) (hin:oin.length≤W) (hos:(os'.all fun e=>decide (e.1<W))=true)
 (h:dL P G ⟨0,fn.ntmps,false⟩ oin.length (Aq P fn.results.toList oin.length (jd oin.length rv os')) fuel [.code c] (gV args 0) oin W):FC P G f oin args rv os':=by
 refine⟨hn,fun o x hx=>?_,fun S0 ι0 w0 vs h0 hG hob hι hL=>?_⟩
 ·have:=YG.1 hos _ (sV hx)
  simp_all
 have him:∀j L,ι0 j=some L→j<oin.length:=fun j L e=>by
  grind
 have hinv:=Hu (fn:=fn) hsz h0 hG hob hι hin him hL
 refine Hz hm hf hb ⟨rfl,rfl⟩ hinv h ?_
 intro N dfs qb g os hfin S ι un a w hi
 obtain⟨rs,hrs,h2⟩:=bh hfin
 rw[lb,qm]at h2
 obtain⟨os2,σ,hfl,hc⟩:=h2
 obtain⟨v,hv1,hv2⟩:=HT (P:=P) hi hrs
 let C':Cx:=⟨G,w0,⟨0,1,false⟩,dx w0 ι0 oin,S0,oin.length,ι0,him,fun _=>undef,[],[]⟩
 have hi':Inv C' S ι un (cz [(0,one rs)] os) {tmps:=#[v],defers:=[]} w:=by
  refine⟨fun t=>?_,rfl,⟨rfl,fun t ht=>absurd ht (W9 t),fun q hq=>(by cases hq)⟩,hi.ob,hi.own,hi.inj,hi.sb,hi.sn,hi.un,hi.fr,hi.fo,hi.gv,hi.s0,hi.hj⟩
  cases t with
  |zero=>exact hv2
  |succ t=>exact .bI _ _ (.undef _)
 obtain⟨ι2,hi2⟩:=(Inv.ql hfl hi').uh hc
 have hrv:bP S w ι2 rv v:=hi2.tm 0
 have hR:∃v' S' ι',Ending.returned v=.returned v'∧Fr (dx w0 ι0 oin) w0 w∧(∀b,S' b→(S0 b∨dx w0 ι0 oin b)∧b<w.heap.size)∧(∀b,S0 b→S' b)∧ι0.le ι'∧
  (∀o,W≤o→ι' o=none)∧bP S' w ι' rv v'∧jG (dx w0 ι0 oin) S' w ι' (lk os'):=
  ⟨v,S,ι2,rfl,hi2.fr,fun b hb=>⟨hi2.sn b hb,hi2.sb b hb⟩,hi2.s0,fun j L e=>hi2.hj j L e,hi2.un,hrv,⟨hi2.ob,hi2.own,hi2.inj⟩⟩
 simp_all
theorem eT{P:Program}{G:db}{f:Nat}{args:List AV}{rv rv':AV}{os':Os}(h:FC P G f [] args rv os')(hV:ft (os'.map (·.1)) (lk os') 8 rv=some rv'):
 FC P G f [] args rv' []:=by
 refine⟨h.1,fun o x hx=>by simp[lk]at hx,fun S0 ι0 w0 vs h0 hG hob hι hL=>?_⟩
 refine(h.2.2 S0 ι0 w0 vs h0 hG hob hι hL).mono ?_
 rintro e w' ⟨v,S',ι',rfl,hfr,hS1,hS2,hle,hιW,hrep,hob'⟩
 have hcl:=wk hob'.ob 8 _ _ _ hrep hV
 refine⟨v,SV S' ι' (lk os') (os'.map (·.1)),ι',rfl,hfr,fun b hb=>?_,fun b hb=>.inl (hS2 b hb),hle,hιW,.bI _ _ hcl,
  ⟨fun o x hx=>by simp[lk]at hx,fun o x hx=>by simp[lk]at hx,fun o o' x x' hx=>by simp[lk]at hx⟩⟩
 rcases hb with hb|⟨o,x,l,_,hx,hl,rfl⟩
 ·simp_all
 ·by_cases hlv:x.live=true
  ·have:=hob'.own o x hx hlv l hl _ (.inl rfl)
   simp_all
  ·have hob2:=hob'.ob o x hx
   cases x with
   |cT rs=>
    rcases hob2 with ⟨q,_⟩|⟨l',vals,q,_,hS,_⟩
    all_goals simp_all
   |rows p rs=>exact absurd rfl hlv
   |aw p es=>exact absurd rfl hlv
   |bL z fs hh=>exact absurd rfl hlv
   |bK es hh=>exact absurd rfl hlv
   |lit rs=>exact absurd rfl hlv
def bG(k:IntKind)(n:Int):List AV:=[.int k n]
def gP(b:Bool):List AV:=[.bool b]
def fy(s:List UInt8):List AV:=[.str s]
def fe{α:Type}(c:α→List AV)(l:List α):List AV:=[.sl (l.map c)]
theorem dS{α β:Type}{X:Option α}{f:α→Option β}{r:β}(h:Option.bind X f=some r):∃y,X=some y∧f y=some r:=by
 cases X with
 |none=>cases h
 |some y=>simp_all
theorem qH{α:Type}{b:Bool}{X Y:Option α}{r:α}(h:cond b X Y=some r)(hb:b=true):X=some r:=by simp_all
theorem qF{α:Type}{b:Bool}{X Y:Option α}{r:α}(h:cond b X Y=some r)(hb:b=false):Y=some r:=by simp_all
theorem dA{α:Type}{p:Prop}{_:Decidable p}{X:Option α}{r:α}(h:cond (decide p) X none=some r):p∧X=some r:=by
 grind
theorem na{α:Type}{X:List (List AV)}{c:α→List AV}{L:List α}{i:Nat}{y:α}(hX:X=L.map c)(h:L[i]? =some y):X[i]? =some (c y):=by
 simp_all
theorem bZ{α:Type}{a b:α}{l l':List α}(h:a=b)(h':l=l'):a::l=b::l':=by simp_all
def dE{R V:Type}[Inhabited V](o:R⊕V):V:=Sum.elim (fun _=>default) id o
theorem lg{P:Program}{G:db}{f:Nat}{args args':List AV}{rv:AV}{os:Os}(e:args=args')(h:FC P G f [] args rv os):FC P G f [] args' rv os:=e▸h
theorem dU.take{n k:Nat}{rs:List (List AV)}(h:dU n rs):dU n (rs.take k):=fun r hr=>h r (YN hr)
theorem dU.drop{n k:Nat}{rs:List (List AV)}(h:dU n rs):dU n (rs.drop k):=fun r hr=>h r (Wm hr)
theorem dU.replicate{n k:Nat}{x:List AV}(hx:x.length=n):dU n (List.replicate k x):=fun r hr=>by
 simp_all
def rH(L:List Int):Bool:=L.all fun n=>decide (0≤n)&&decide (n<256)
def dQ(L:List Int):List UInt8:=L.map fun n=>UInt8.ofNat n.toNat
theorem GL{α:Type}{L:List Int}{X:Option α}{r:α}(h:cond (rH L) X none=some r):rH L=true∧X=some r:=by
 grind
theorem Hm{X:List (List AV)}{L:List Int}(hX:X=L.map (bG .u8))(h:rH L=true):X=gj (dQ L):=by
 subst hX
 induction L with
 |nil=>rfl
 |cons n r ih=>
  simp only[rH,List.all_cons,Y9,Yx]at h
  have ih:=ih (by simpa[rH]using h.2)
  simp only[gj,dQ,Yp,YP,bG]at ih⊢
  refine bZ ?_ ?_
  ·have:((UInt8.ofNat n.toNat).toNat:Int)=n:=by
    simp only[UInt8.toNat_ofNat'];omega
   simp_all
  omega
theorem jH{R V α:Type}{f:R→α}{g:V→α}{e:R}{X:α}(h:Sum.elim f g (Sum.inl e)=X):f e=X:=h
theorem jI{R V α:Type}{f:R→α}{g:V→α}{e:V}{X:α}(h:Sum.elim f g (Sum.inr e)=X):g e=X:=h
@[simp] theorem CV(k:IntKind)(n:Int):bG k n=[.int k n]:=rfl
@[simp] theorem Ax(b:Bool):gP b=[.bool b]:=rfl
@[simp] theorem CU(s:List UInt8):fy s=[.str s]:=rfl
@[simp] theorem Gm{α:Type}(c:α→List AV)(l:List α):fe c l=[.sl (l.map c)]:=rfl
@[simp] theorem CS(l:List UInt8):gj l=l.map fun b=>[.int .u8 b.toNat]:=rfl
@[simp] theorem yX{α:Type}(row:List α)(c:Nat)(xs:List α):setAt row c xs=row.take c++(xs++row.drop (c+xs.length)):=rfl
@[simp] theorem Gg{α:Type}(xs:List α)(a b:Nat):cut none none xs a b=xs:=rfl
@[simp] theorem Gf{α:Type}(h:Operand)(xs:List α)(a b:Nat):cut none (some h) xs a b=xs.take b:=rfl
@[simp] theorem JU{α:Type}(l:Operand)(xs:List α)(a b:Nat):cut (some l) none xs a b=xs.drop a:=rfl
@[simp] theorem Ge{α:Type}(l h:Operand)(xs:List α)(a b:Nat):cut (some l) (some h) xs a b=(xs.take b).drop a:=rfl
theorem Px{R V α:Type}[Inhabited V]{f:R→α}{g:V→α}{o:R⊕V}{X:α}(hR:o=Sum.inr (dE o))(h:Sum.elim f g o=X):g (dE o)=X:=by
 grind
def dX(k:IntKind)(n:Int):Prop:=(Lit.int k n).wf=true
theorem J5{n:Int}(h:dX .i64 n): -9223372036854775808≤n∧n≤9223372036854775807:=by
 simpa[dX,Lit.wf,IntKind.min,IntKind.max,IntKind.signed,IntKind.bits]using h
def Gw(P:Program)(f:Nat):Prop:=eF P f=true∧
 (∀(b off g:Nat) (fs cap:Array Value) (w:World) (R:World→Prop),w.cell? ⟨b,off,none⟩=some (.int .u32 0)→w.cell? ⟨b,off+1,none⟩=some (.int .i32 0)→
  w.frozen? ⟨b,off,none⟩=false→w.frozen? ⟨b,off+1,none⟩=false→(∀w:World,(callFunc g (fs++cap)).run P w=.ok (.enter g (fs++cap)) w)→
  (Calls P g (fs++cap) (w.setCell ⟨b,off+1,none⟩ (.int .i32 1)) fun e w'=>e=.returned (.tuple #[])∧R w')→
  (∀w',R w'→w'.cell? ⟨b,off,none⟩=some (.int .u32 0)∧w'.cell? ⟨b,off+1,none⟩=some (.int .i32 1)∧w'.frozen? ⟨b,off,none⟩=false∧w'.frozen? ⟨b,off+1,none⟩=false)→
  Calls P f #[.pointer (some ⟨b,off,none⟩),.func (.func g) fs cap] w fun e w'=>e=.returned (.tuple #[])∧
   ∃w1,R w1∧w'=(w1.drew.setCell ⟨b,off,none⟩ (.int .u32 1)).setCell ⟨b,off+1,none⟩ (.int .i32 0))∧
 (∀(a:Addr) (d:Int) (fv:Value) (w:World),d≠0→w.cell? a=some (.int .u32 d)→Calls P f #[.pointer (some a),fv] w fun e w'=>e=.returned (.tuple #[])∧w'=w)
section
variable {Ow S:Nat→Prop}{ι:ax}{w0 w:World}
theorem jG.inv{os:Nat→Option AO}(h:jG Ow S w ι os)(hfr:Fr Ow w0 w)(hfo:∀b,w0.heap.size≤b→Ow b)(hsb:∀b,S b→b<w.heap.size):
 Inv ⟨fun _=>none,w0,⟨0,0,false⟩,Ow,S,0,fun _=>none,fun _ _ h=>(by cases h),fun _=>undef,[],[]⟩ S ι (fun _=>False) ⟨fun _=>.undef,os⟩ {tmps:=#[],defers:=[]} w:=
 ⟨fun t=>.bI _ _ (.undef _),rfl,⟨rfl,fun t ht=>absurd ht (W9 t),fun q hq=>(by cases hq)⟩,h.ob,h.own,h.inj,hsb,fun b hb=>.inl hb,fun o ho=>ho.elim,hfr,hfo,fun g row hg=>(by cases hg),fun b hb=>hb,fun j L e=>by cases e⟩
theorem jG.write{os:Nat→Option AO}(h:jG Ow S w ι os)(hfr:Fr Ow w0 w)(hfo:∀b,w0.heap.size≤b→Ow b)(hsb:∀b,S b→b<w.heap.size)
 {o:Nat} {p:Bool} {rs:List (List AV)} {row cs:List AV} {vs:List Value} {i c:Nat} {l:Loc} (hx:os o=some (.rows p rs)) (hl:ι o=some (some l)) (hrow:rs[i]? =some row)
 (hvs:az S w ι cs vs) (hone:∀v,v∈vs→v.oneCell'=true) (hc:c+cs.length≤row.length):
 jG Ow S (w.setCells l.bd (l.base+(i*l.bo+c)) vs) ι (ay os [(o,some (.rows (p&&cs.all gY) (rs.set i (setAt row c cs))))])∧Fr Ow w0 (w.setCells l.bd (l.base+(i*l.bo+c)) vs):=by
 have hi:=h.inv hfr hfo hsb
 have hob:=h.ob o _ hx
 rcases hob with ⟨q,_⟩|⟨l',vals,q,hcnt,hm,hat,hrep⟩
 ·simp_all
 ·rw[q]at hl;injection hl with hl;injection hl with hl;subst hl
  have hi2:=Inv.writes hi (x':=.rows (p&&cs.all gY) (rs.set i (setAt row c cs))) hx rfl q rfl (l'.base+(i*l'.bo+c)) vs
   (fun hw=>L3 q hcnt hm hat hrep hrow hvs hone hc hw)
  exact⟨⟨hi2.ob,hi2.own,hi2.inj⟩,hi2.fr⟩
theorem jG.drew{os:Nat→Option AO}(h:jG Ow S w ι os)(hfr:Fr Ow w0 w)(hfo:∀b,w0.heap.size≤b→Ow b)(hsb:∀b,S b→b<w.heap.size):
 jG Ow S w.drew ι os∧Fr Ow w0 w.drew:=by
 have hi:=(h.inv hfr hfo hsb).drew
 exact⟨⟨hi.ob,hi.own,hi.inj⟩,hi.fr⟩
end
theorem G5(x y:AO)(rest:Os):ay (lk ((0,x)::rest)) [(0,some y)]=lk ((0,y)::rest):=by
 funext o
 simp only[ay,lk]
 grind
theorem AZ{S:Nat→Prop}{w:World}{ι:ax}{o:Nat}{p:Bool}{rs:List (List AV)}(h:ca S w ι o (.rows p rs)){i c:Nat}{row:List AV}{l:Loc}(hl:ι o=some (some l))
 (hrow:rs[i]? =some row) {k:IntKind} {n:Int} (hx:row[c]? =some (.int k n)):
 w.cell? ⟨l.bd,l.base+(i*l.bo+c),none⟩=some (.int k n)∧w.frozen? ⟨l.bd,l.base+(i*l.bo+c),none⟩=false:=by
 rcases h with ⟨q,_⟩|⟨l',vals,q,hcnt,hm,hat,hrep⟩
 ·simp_all
 ·rw[q]at hl;injection hl with hl;injection hl with hl;subst hl
  have hi:i<rs.length:=eZ hrow
  have hR:az S w ι row (vals i):=by
   have:=hrep i row hrow
   cases p with
   |false=>simp_all
   |true=>simp only[Yi]at this;exact this.rep
  have hlen:=hR.1
  have hc:c<(vals i).length:=by rw[←hlen];exact eZ hx
  have hv:(vals i)[c]? =some (vals i)[c]:=Y3 hc
  have h1:=hat.2.2 i c _ hi hv
  have h2:=(hR.2 c _ _ hx hv).bu
  refine⟨by simp_all,?_⟩
  have he:=hat.2.1 i hi
  have h3:=hat.1
  have h4:(i+1)*l'.bo≤rs.length*l'.bo:=Yr _ hi
  rw[YT]at h4
  exact(hm _).2 (.inl (by omega))
theorem Uz{P:Program}{G:db}{f:Nat}{p:Bool}{rs:List (List AV)}{rest:Os}{i c:Nat}{row:List AV}{d:Int}{x:AV}(hO:Gw P f)
 (hW:(((0,AO.rows p rs)::rest).all (fun e=>decide (e.1<W))&&decide (((0,AO.rows p rs)::rest).length≤W))=true)
 (hrow:rs[i]? =some row) (h0:row[c]? =some (.int .u32 d)) (hd:d≠0):FC P G f ((0,.rows p rs)::rest) [.ptr 0 i c,x] (.bN []) ((0,.rows p rs)::rest):=by
 rw[Y9,Yx]at hW
 refine⟨hO.1,fun o y hy=>?_,fun S0 ι0 w0 vs hs0 hG hob hι hL=>?_⟩
 ·have:=YG.1 hW.1 _ (sV hy)
  simp_all
 obtain⟨vs⟩:=vs
 obtain⟨hlen,hrep⟩:=hL
 match vs,hlen with
 | [v0,v1],_=>
  obtain⟨l,hl,rfl⟩:=(hrep 0 _ v0 rfl rfl).cZ
  have hc:=AZ (hob.ob 0 (.rows p rs) rfl) hl hrow h0
  refine(hO.2.2 ⟨l.bd,l.base+(i*l.bo+c),none⟩ d v1 w0 hd hc.1).mono ?_
  rintro e w' ⟨rfl,rfl⟩
  exact⟨_,S0,ι0,rfl,⟨rfl,rfl,Yg _,fun _ _ _=>rfl⟩,fun b hb=>⟨.inl hb,hs0 b hb⟩,fun _ h=>h,ax.le_refl _,fun o ho=>hι o (YZ hW.2 ho),
   .bN [] #[] rfl (fun j x v h=>by simp at h),hob⟩
theorem DN(w:World)(b o:Nat)(v:Value):w.setCells b o [v]=w.setCell ⟨b,o,none⟩ v:=rfl
theorem QU{w0 w1:World}{ι:ax}{x y:AO}{rest:Os}(hs:w1.heap.size=w0.heap.size)(hxy:y.live=x.live)(hx1:vT x=true)(hy1:vT y=true)
 (hr:∀o z l,o≠0→lk ((0,x)::rest) o=some z→z.live=true→ι o=some (some l)→∀b,cj w0 z l b→w1.heap[b]? =w0.heap[b]?):
 dx w1 ι ((0,y)::rest)=dx w0 ι ((0,x)::rest):=by
 funext b
 unfold dx;rw[hs];apply propext
 refine or_congr_right ⟨?_,?_⟩
 ·rintro⟨o,z,l,h1,h2,h3,h4⟩
  by_cases e:o=0
  ·subst e
   simp only[lk,Yi,Y2]at h1;subst h1
   exact⟨0,x,l,by rfl,by simp_all,h3,.inl (iw hy1 h4)⟩
  ·have h1':lk ((0,x)::rest) o=some z:=by simpa[lk,e]using h1
   exact⟨o,z,l,h1',h2,h3,eP (hr o z l e h1' h2 h3) h4⟩
 ·rintro⟨o,z,l,h1,h2,h3,h4⟩
  by_cases e:o=0
  ·subst e
   simp only[lk,Yi,Y2]at h1;subst h1
   exact⟨0,y,l,by rfl,by simp_all,h3,.inl (iw hx1 h4)⟩
  ·exact⟨o,z,l,by simpa[lk,e]using h1,h2,h3,Ti (hr o z l e h1 h2 h3) h4⟩
theorem UQ{P:Program}{G:db}{f g h:Nat}{p p1:Bool}{rs rs1:List (List AV)}{rest rest1:Os}{caps:List AV}{i c:Nat}{row row1:List AV}(hO:Gw P f)(hgh:h=g∨h=FB+g)
 (hW:(((0,AO.rows p rs)::rest).length≤W))
 (hrow:rs[i]? =some row) (h0:row[c]? =some (.int .u32 0)) (h1:row[c+1]? =some (.int .i32 0))
 (hF:FC P G g ((0,.rows p (rs.set i (setAt row (c+1) [.int .i32 1])))::rest) caps (.bN []) ((0,.rows p1 rs1)::rest1))
 (hrow1:rs1[i]? =some row1) (h2:row1[c]? =some (.int .u32 0)) (h3:row1[c+1]? =some (.int .i32 1)):
 FC P G f ((0,.rows p rs)::rest) [.ptr 0 i c,.fn h caps] (.bN []) ((0,.rows p1 (rs1.set i (setAt (setAt row1 c [.int .u32 1]) (c+1) [.int .i32 0])))::rest1):=by
 obtain⟨hg1,hg2,hg3⟩:=hF
 refine⟨hO.1,fun o y hy=>?_,fun S0 ι0 w0 vs hs0 hG hob hι hL=>?_⟩
 ·by_cases e:o=0
  ·grind
  ·exact hg2 o y (by simpa[lk,e]using hy)
 obtain⟨vs⟩:=vs
 obtain⟨hlen,hrep⟩:=hL
 match vs,hlen with
 | [v0,v1],_=>
  obtain⟨l,hl,rfl⟩:=(hrep 0 _ v0 rfl rfl).cZ
  obtain⟨cap,rfl,hcap⟩:=(hrep 1 _ v1 rfl rfl).gC
  have hob0:=hob.ob 0 (.rows p rs) rfl
  obtain⟨fs,cp,hfv,hfc⟩:∃fs cp:Array Value,nc h cap=.func (.func g) fs cp∧fs++cp=cap:=by
   rcases hgh with rfl|rfl
   ·exact⟨#[],cap,vQ (A6 hg1) _,by simp⟩
   ·refine⟨cap,#[],?_,by simp⟩
    have hge:Nat.blt (FB+g) FB=false:=by
     cases hb:Nat.blt (FB+g) FB with
     |false=>rfl
     |true=>
      have:=W5 hb
      omega
    unfold nc;simp_all
  rw[hfv]
  have c0:=AZ hob0 hl hrow h0
  have c1:=AZ hob0 hl hrow h1
  have hfr0:Fr (dx w0 ι0 ((0,.rows p rs)::rest)) w0 w0:=⟨rfl,rfl,Yg _,fun _ _ _=>rfl⟩
  have hfo:∀b,w0.heap.size≤b→dx w0 ι0 ((0,.rows p rs)::rest) b:=fun b hb=>.inl hb
  have hwr:=jG.write (cs:=[.int .i32 1]) (vs:=[.int .i32 1]) (c:=c+1) hob hfr0 hfo hs0 rfl hl hrow (.cons (.bI _ _ (.int _ _)) .nil) (by simp[Value.oneCell'])
   (by grind)
  rw[G5,show(p&&[AV.int .i32 1].all gY)=p by simp[gY]]at hwr
  obtain⟨hob1,hfr1⟩:=hwr
  rw[DN]at hob1 hfr1;generalize hw1:w0.setCell ⟨l.bd,l.base+(i*l.bo+(c+1)),none⟩ (.int .i32 1)=w1 at hob1 hfr1
  have hsz:w1.heap.size=w0.heap.size:=by rw[←hw1];simp
  have hOw:dx w1 ι0 ((0,.rows p (rs.set i (setAt row (c+1) [.int .i32 1])))::rest)=dx w0 ι0 ((0,.rows p rs)::rest):=QU hsz rfl rfl rfl (fun o z l' ho hz hlv hl' b hb=>by
   rw[←hw1,←DN]
   exact Wx w0 _ _ _ (hob.own o z hz hlv l' hl' b hb).2.2 (fun e=>ho (hob.inj o 0 z (.rows p rs) hz rfl hlv rfl l' l hl' hl b hb (.inl e))))
  have hsame:fz S0 w0 w1:=fun b hb=>hfr1.old b (hs0 b hb) (fun hO=>by
   rcases hO with h|⟨o,x,l',q1,q2,q3,q4⟩
   ·grind
   ·exact(hob.own o x q1 q2 l' q3 b q4).2.1 hb)
  have hcall:=hg3 S0 ι0 w1 cap (fun b hb=>by simp_all) (fun g row hg=>(hG g row hg).mono (fun _ h=>h) hsame) (by simp_all) hι (hcap.mono (fun _ h=>h) hsame (ax.le_refl _))
  rw[hOw]at hcall
  let R:World→Prop:=fun w'=>∃S' ι',Fr (dx w0 ι0 ((0,.rows p rs)::rest)) w1 w'∧
   (∀b,S' b→(S0 b∨dx w0 ι0 ((0,.rows p rs)::rest) b)∧b<w'.heap.size)∧(∀b,S0 b→S' b)∧ι0.le ι'∧(∀o,W≤o→ι' o=none)∧jG (dx w0 ι0 ((0,.rows p rs)::rest)) S' w' ι' (lk ((0,.rows p1 rs1)::rest1))
  have hcell:∀w',R w'→w'.cell? ⟨l.bd,l.base+(i*l.bo+c),none⟩=some (.int .u32 0)∧w'.cell? ⟨l.bd,l.base+(i*l.bo+c)+1,none⟩=some (.int .i32 1)∧
   w'.frozen? ⟨l.bd,l.base+(i*l.bo+c),none⟩=false∧w'.frozen? ⟨l.bd,l.base+(i*l.bo+c)+1,none⟩=false:=by
   rintro w' ⟨S',ι',_,_,_,hle,_,hob'⟩
   have hl':=hle _ _ hl
   have a:=AZ (hob'.ob 0 (.rows p1 rs1) rfl) hl' hrow1 h2
   have b:=AZ (hob'.ob 0 (.rows p1 rs1) rfl) hl' hrow1 h3
   exact⟨a.1,b.1,a.2,b.2⟩
  refine(hO.2.1 l.bd (l.base+(i*l.bo+c)) g fs cp w0 R c0.1 c1.1 c0.2 c1.2 (fun w=>Hn hg1 _ w) ?_ hcell).mono ?_
  ·rw[hfc]
   show Calls P g cap (w0.setCell ⟨l.bd,l.base+(i*l.bo+(c+1)),none⟩ (.int .i32 1)) _
   rw[hw1]
   refine hcall.mono ?_
   rintro e w' ⟨v,S',ι',rfl,q1,q2,q3,q4,q5,q6,q7⟩
   obtain⟨us,rfl,hus⟩:=q6.gA
   have hu0:us=#[]:=by
    have:=hus.1
    simp at this;exact Array.eq_empty_of_size_eq_zero this.symm
   grind
  ·rintro e w' ⟨rfl,w2,⟨S',ι',q1,q2,q3,q4,q5,q7⟩,rfl⟩
   have hl':=q4 _ _ hl
   have hfr2:Fr (dx w0 ι0 ((0,.rows p rs)::rest)) w0 w2:=⟨q1.os.trans hfr1.os,q1.output.trans hfr1.output,YZ hfr1.size q1.size,fun b hb hn=>(q1.old b (by omega) hn).trans (hfr1.old b hb hn)⟩
   have hsb:∀b,S' b→b<w2.heap.size:=fun b hb=>(q2 b hb).2
   obtain⟨hob3,hfr3⟩:=q7.drew hfr2 hfo hsb
   have hlt1:=eZ h3
   have hwr:=jG.write (cs:=[.int .u32 1]) (vs:=[.int .u32 1]) (c:=c) hob3 hfr3 hfo hsb rfl hl' hrow1 (.cons (.bI _ _ (.int _ _)) .nil) (by simp[Value.oneCell'])
    (by grind)
   rw[G5,show(p1&&[AV.int .u32 1].all gY)=p1 by simp[gY],DN]at hwr
   obtain⟨hob4,hfr4⟩:=hwr
   have hi1:=eZ hrow1
   have hwr:=jG.write (cs:=[.int .i32 0]) (vs:=[.int .i32 0]) (c:=c+1) (i:=i) (row:=setAt row1 c [.int .u32 1]) hob4 hfr4 hfo (fun b hb=>by simp_all) rfl hl' (by simp[hi1]) (.cons (.bI _ _ (.int _ _)) .nil) (by simp[Value.oneCell'])
    (by rw[tn _ _ _ (by grind)];grind)
   rw[G5,show(p1&&[AV.int .i32 0].all gY)=p1 by simp[gY],DN,List.set_set]at hwr
   obtain⟨hob5,hfr5⟩:=hwr
   exact⟨_,S',ι',rfl,hfr5,fun b hb=>⟨(q2 b hb).1,by simpa using hsb b hb⟩,q3,q4,q5,.bN [] #[] rfl (fun j x v h=>by simp at h),hob5⟩
theorem Inv.pP{C:Cx}{S:Nat→Prop}{w:World}{ι:ax}{un:Nat→Prop}{f:FS}{a:Act}(h:Inv C S ι un f a w){o:Nat}{x x':AO}(ho:f.os o=some x)(h1:vT x=true)(h1':vT x'=true)(hl:x.live=true)
 (hok:ca S w ι o x'):Inv C S ι un {f with os:=ay f.os [(o,some x')]} a w:=by
 have hosU:∀k y,ay f.os [(o,some x')] k=some y→(k=o∧y=x')∨(k≠o∧f.os k=some y):=by
  intro k y hy;simp only[ay]at hy
  by_cases e:k=o
  ·simp_all
  ·simp_all
 refine h.hP (fun _ x=>x) (fun _ _=>rfl) (ax.le_refl _) ?_ ?_ ?_ h.sb h.sn h.un h.fr
 ·intro k y hy
  rcases hosU k y hy with ⟨rfl,rfl⟩|⟨_,h3⟩
  ·exact hok
  ·exact h.ob k y h3
 ·intro k y hy hly l hl' b hb
  rcases hosU k y hy with ⟨rfl,rfl⟩|⟨_,h3⟩
  ·exact h.own k x ho hl l hl' b (.inl (iw h1' hb))
  ·exact h.own k y h3 hly l hl' b hb
 ·intro k1 k2 y1 y2 hy1 hy2 hv1 hv2 l1 l2 e1 e2 b hb1 hb2
  rcases hosU k1 y1 hy1 with ⟨rfl,rfl⟩|⟨_,h3⟩<;>rcases hosU k2 y2 hy2 with ⟨g0,g⟩|⟨_,g3⟩
  ·omega
  ·exact h.inj k1 k2 x y2 ho g3 hl hv2 l1 l2 e1 e2 b (.inl (iw h1' hb1)) hb2
  ·subst g0;subst g
   exact h.inj k1 k2 y1 x h3 ho hv1 hl l1 l2 e1 e2 b hb1 (.inl (iw h1' hb2))
  ·exact h.inj k1 k2 y1 y2 h3 g3 hv1 hv2 l1 l2 e1 e2 b hb1 hb2
theorem J3{P:Program}{G:db}{f:Nat}{oin:Os}{args:List AV}{v:AV}{os os':Os}(o i c z:Nat){rs:List (List AV)}{row:List AV}(h:FC P G f oin args v os)(hin:oin.length≤W)
 (ho:lk os o=some (.rows false rs)) (hrow:rs[i]? =some row) (hc:row[c]? =some .dq) (hos:(os'.all fun e=>decide (e.1<W))=true)
 (hE:jd oin.length v os' v (gy os [(o,some (.rows false (rs.set i (setAt row c [.an W z])))),(W,some (.rows true []))])):FC P G f oin args v os':=by
 refine⟨h.1,fun o x hx=>?_,fun S0 ι0 w0 vs h0 hG hob hι hL=>?_⟩
 ·have:=YG.1 hos _ (sV hx)
  simp_all
 refine(h.2.2 S0 ι0 w0 vs h0 hG hob hι hL).mono ?_
 rintro e w ⟨u,S,ι,rfl,q1,q2,q3,q4,q5,q6,q7⟩
 obtain⟨os2,σ,hfl,hcv⟩:=hE.h
 have him:∀j L,ι0 j=some L→j<oin.length:=fun j L e=>by
  grind
 let C':Cx:=⟨fun _=>none,w0,⟨0,1,false⟩,dx w0 ι0 oin,S0,oin.length,ι0,him,fun _=>undef,[],[]⟩
 have hi':Inv C' S ι (fun x=>W≤x) (cz [(0,v)] os) {tmps:=#[u],defers:=[]} w:=by
  refine⟨fun t=>?_,rfl,⟨rfl,fun t ht=>absurd ht (W9 t),fun q hq=>(by cases hq)⟩,q7.ob,q7.own,q7.inj,fun b hb=>(q2 b hb).2,fun b hb=>(q2 b hb).1,q5,q1,fun b hb=>.inl hb,fun g row hg=>(by cases hg),q3,fun j L e=>q4 j _ e⟩
  cases t with
  |zero=>exact q6
  |succ t=>exact .bI _ _ (.undef _)
 obtain⟨ι1,hle,hιW,hi1⟩:=hi'.void (id:=W) (Yg W) true
 have hoW:o≠W:=fun e=>by have:=h.2.1 o _ ho;omega
 have ho1:({cz [(0,v)] os with os:=ay (cz [(0,v)] os).os [(W,some (.rows true []))]}:FS).os o=some (.rows false rs):=by
  show ay (lk os) [(W,some (.rows true []))] o=_
  simp only[ay,if_neg hoW];exact ho
 have hob1:=hi1.ob o _ ho1
 have hi2:=hi1.pP (x':=.rows false (rs.set i (setAt row c [.an W z]))) ho1 rfl rfl rfl (by
  rcases hob1 with ⟨_,h⟩|⟨l,vals,h1,h2,h3,h4,h5⟩
  ·simp_all
  ·refine .inr ⟨l,vals,h1,by simp_all,h3,by simp_all,fun j r hr=>?_⟩
   simp only[Yu,Yc]
   by_cases e:i=j
   ·subst e
    have hlt:=eZ hrow
    rw[WV hlt]at hr
    injection hr with hr;subst hr
    have hR:=h5 i row hrow
    simp only[Yu,Yc]at hR
    have hcl:=eZ hc
    refine⟨by rw[tn _ _ _ (by grind)];exact hR.1,fun t x v hx hv=>?_⟩
    by_cases ht:t=c
    ·subst ht
     have:(setAt row t [AV.an W z])[t]? =some (.an W z):=by
      unfold setAt
      rw[Yf (by grind)]
      simp[W0 (WH hcl)]
     rw[this]at hx;injection hx with hx;subst hx
     have:=hR.2 t _ v hc hv
     cases this with
     |bI _ _ h=>cases h with|dq ad=>exact .fk W z ad hιW
    ·refine hR.2 t x v ?_ hv
     rw[←hx];unfold setAt
     rcases YY t c with q|q
     ·grind
     ·rw[Yf (by grind),Yf (by grind),YR]
      grind
   ·rw[V1 e]at hr
    have:=h5 j r hr
    simp_all)
 have e:({({cz [(0,v)] os with os:=ay (cz [(0,v)] os).os [(W,some (.rows true []))]}:FS)with os:=ay ({cz [(0,v)] os with os:=ay (cz [(0,v)] os).os [(W,some (.rows true []))]}:FS).os [(o,some (.rows false (rs.set i (setAt row c [.an W z]))))]}:FS)
  =cz [(0,v)] (gy os [(o,some (.rows false (rs.set i (setAt row c [.an W z])))),(W,some (.rows true []))]):=by
  unfold cz;rw[AL];simp only[FS.mk.injEq,true_and]
  funext k
  simp only[ay]
 rw[e]at hi2
 obtain⟨ι2,hi3⟩:=(Inv.ql hfl hi2).uh hcv
 exact⟨u,S,ι2,rfl,hi3.fr,fun b hb=>⟨hi3.sn b hb,hi3.sb b hb⟩,hi3.s0,fun j L e=>hi3.hj j L e,hi3.un,hi3.tm 0,⟨hi3.ob,hi3.own,hi3.inj⟩⟩
end Go.Ab
