import Derived.Test.YthohllgoneadhaaGreatDoorAbG
import Derived.RangeFuncIn
import Derived.RangeFuncOwn
import Derived.RangeFuncLeaves
namespace Go.Ab
theorem Inv.act {C : Cx} {S : Nat → Prop} {ι : Imap} {un : Nat → Prop} {gx : Tm} {os : Os} {a a' : Act} {w : World} (h : Inv C S ι un (toFS gx os) a w) {lo : Nat}
    (hg:gx.all (fun e=>decide (e.1<lo))=true) (ht:∀ t,t<lo→a'.tmps.getD t undef=a.tmps.getD t undef) (N:Sl) (kv:Nat→Value) (dfs:List Deferred) (qb:List (Nat×Obj))
    (hsz:a'.tmps.size=N.n) (hdf:a'.defers=dfs) (hkv:∀ t,t<N.lo→a'.tmps.getD t undef=kv t) (hq:∀ q,q∈qb→S q.1∧w.heap[q.1]? = some q.2) :
    Inv {C with N:=N,kv:=kv,dfs:=dfs,qb:=qb} S ι un (toFS gx os) a' w:=by
  refine ⟨fun t=>?_,hsz,⟨hdf,hkv,hq⟩,h.ob,h.own,h.inj,h.sb,h.sn,h.un,h.fr,h.fo,h.gv,h.s0,h.hj⟩
  show Rep S w ι (lookG gx t) _
  rcases Zj5 (g:=gx) (t:=t) with hu | hm
  · rw [hu];exact .imm _ _ (.undef _)
  · have:=List.all_eq_true.1 hg _ hm
    simp only [decide_eq_true_eq] at this
    rw [ht t this]
    exact h.tm t
theorem Zlz (g:Tm) (os:Os) (p:Nat) (v:AV):(toFS g os).put (some p) v=toFS ((p,v)::g) os:=by
  unfold toFS FS.put
  simp only [FS.mk.injEq,and_true]
  funext t
  simp only [lookG]
theorem Zp9 {S : Nat → Prop} {w : World} {zs : List Int} {v : Value} (hsb : ∀ b, S b → b < w.heap.size) (h : IRep S w (.sl (zs.map fun z => [.int .i64 z])) v) :
    ∃ qz:List (Nat×Obj),(∀ q,q∈qz→S q.1∧w.heap[q.1]? = some q.2)∧∀ W:World,(∀ q,q∈qz→W.heap[q.1]? = some q.2)→Zor W v zs:=by
  generalize hX:AV.sl (zs.map fun z=>[.int .i64 z])=X at h
  cases h with
  | snil =>
    injection hX with hX
    have:zs=[]:=by simpa using hX
    subst this
    exact ⟨[],⟨fun q hq=>(by cases hq),fun W _=>⟨none,0,rfl,fun j z hz=>by simp at hz⟩⟩⟩
  | sl xs ad cap sz vals hcap hlim hS hlen hcell hrep =>
    injection hX with hX
    subst hX
    cases zs with
    | nil=>exact ⟨[],⟨fun q hq=>(by cases hq),fun W _=>⟨some ad,cap,rfl,fun j z hz=>by simp at hz⟩⟩⟩
    | cons z0 zr =>
      have hS':=hS (by simp)
      obtain ⟨o,ho⟩:∃ o,w.heap[ad.block]? = some o:=⟨_,Array.getElem?_eq_getElem (hsb _ hS'.1)⟩
      refine ⟨[(ad.block,o)],fun q hq=>?_,fun W hW=>⟨some ad,cap,by simp,fun j z hz=>⟨ad,rfl,hS'.2,?_⟩⟩⟩
      · rw [List.mem_singleton.1 hq];exact ⟨hS'.1,ho⟩
      · have hr:((z0::zr).map fun z=>[AV.int .i64 z])[j]? = some [.int .i64 z]:=by rw [List.getElem?_map,hz];rfl
        have hj:=ZaQ hr
        have hl:=hlen j _ hr
        have hsz:sz=1:=by rw [← hl.1];rfl
        subst hsz
        obtain ⟨u,hu⟩:∃ u,(vals j)[0]? = some u:=⟨_,List.getElem?_eq_getElem (by omega)⟩
        have h1:=hcell j 0 u hj hu
        have h2:=hrep j 0 _ _ u hr rfl hu
        cases h2
        have hb:W.heap[ad.block]? = w.heap[ad.block]? := (hW (ad.block,o) (by simp)).trans ho.symm
        have:=(Zcn (j:=ad.off+(j * 1+0)) hb).trans h1.1
        rw [Nat.mul_one,Nat.add_zero] at this
        exact this
  | _=>cases hX
theorem rp_of {S : Nat → Prop} {w : World} {zs : List Int} {v : Value} (hsb : ∀ b, S b → b < w.heap.size) (h : IRep S w (.rp [.sl (zs.map fun z => [.int .i64 z])] 0) v) :
    ∃ pa:Addr,v = .pointer (some pa)∧∃ qz:List (Nat×Obj),(∀ q,q∈qz→S q.1∧w.heap[q.1]? = some q.2)∧∀ W:World,(∀ q,q∈qz→W.heap[q.1]? = some q.2)→∃ u,W.cell? pa=some u∧Zor W u zs:=by
  cases h with
  | rp row off blk base vals hS hl hcell hrep =>
    refine ⟨⟨blk,base+0,none⟩,rfl,?_⟩
    obtain ⟨u,hu⟩:∃ u,vals[0]? = some u:=⟨_,List.getElem?_eq_getElem (by simp at hl;omega)⟩
    obtain ⟨qz,h1,h2⟩:=Zp9 hsb (hrep 0 _ u rfl hu)
    obtain ⟨o,ho⟩:∃ o,w.heap[blk]? = some o:=⟨_,Array.getElem?_eq_getElem (hsb _ hS)⟩
    refine ⟨(blk,o)::qz,fun q hq=>?_,fun W hW=>⟨u,?_,h2 W (fun q hq=>hW q (List.mem_cons_of_mem _ hq))⟩⟩
    · rcases List.mem_cons.1 hq with rfl | hq
      · exact ⟨hS,ho⟩
      · exact h1 q hq
    · have hb:W.heap[blk]? = w.heap[blk]? := (hW _ List.mem_cons_self).trans ho.symm
      exact (Zcn (j:=base+0) hb).trans (hcell 0 u hu).1
set_option maxHeartbeats 1000000 in
theorem ZoK {P : Program} {C : Cx} {S : Nat → Prop} {ι : Imap} {a : Act} {w : World} {g : Tm} {os : Os} {nx : Nat} {gop : Operand} {ps : Array Tmp} {assign body : Code}
    {X:Nat→Bool→(Tm→Os→Nat→Prop)→Tm→Os→Nat→Prop} {K:Tm→Os→Nat→Prop} {Q:Exit→Act→World→Prop}
    (hdf:C.dfs=[]∧C.qb=[])
    (hX:∀ (C':Cx) lo b κ g os nx l,C'.N=⟨lo,C.N.n,true⟩→C'.G=C.G→C'.m=C.m→X lo b κ g os nx→∀ S ι a w,Inv C' S ι (fun x=>nx≤x) (toFS g os) a w →
      (bif b then body else assign).wpIn (WF (some l)) 0 P (Exit.then (fun a w=>∃ g os nx S ι,κ g os nx∧Inv C' S ι (fun x=>nx≤x) (toFS g os) a w) (fun _ _ _=>False)) a w)
    (hK:∀ D g os nx,K g os nx→C.Ow D→∀ S ι a w,Inv (C.ranged D) S ι (fun x=>nx≤x) (toFS g os) a w→Q .normal a w)
    (hR:ZpH P C.N C.m g os nx (evA C.G (lookG g) gop) ps.toList X K) (hinv:Inv C S ι (fun x=>nx≤x) (toFS g os) a w) :
    (Code.rangeFunc gop ps assign body).wpIn (WF none) 0 P Q a w:=by
  obtain ⟨fB,zs,p,q,lo,α,gx,osx,nx',I,x0,σ0,hB,hgv,hps,hd,hI0,hcov,hround,hend⟩:=hR.h
  simp only [Bool.and_eq_true,decide_eq_true_eq] at hd
  obtain ⟨⟨⟨⟨⟨hp1,hp2⟩,hq1⟩,hq2⟩,hpq⟩,hgx⟩:=hd
  have hev:=hinv.ev gop
  rw [show (toFS g os).g=lookG g from rfl,hgv] at hev
  obtain ⟨vs,hv,hL⟩:=hev.fn_inv
  obtain ⟨vs⟩:=vs
  obtain ⟨hlen,hrep⟩:=hL
  match vs,hlen with
  | [pv],_ =>
  have hpv:IRep S w (.rp [.sl (zs.map fun z=>[.int .i64 z])] 0) pv:=by
    have h:=hrep 0 _ pv rfl rfl
    cases h with | imm _ _ h=>exact h
  have hlz:zs.length≤LIM:=by
    cases hpv with
    | rp row off blk base vals hS hl hcell hrep2 =>
      obtain ⟨u,hu⟩:∃ u,vals[0]? = some u:=⟨_,List.getElem?_eq_getElem (by simp at hl;omega)⟩
      have:=hrep2 0 _ u rfl hu
      generalize hX:AV.sl (zs.map fun z=>[.int .i64 z])=X at this
      cases this with
      | snil => injection hX with hX; have : zs = [] := by simpa using hX
                subst this;simp
      | sl xs ad cap sz vals hcap hlim hS hlen hcell hrep=>injection hX with hX;subst hX;simpa using hlim
      | _=>cases hX
  obtain ⟨pa,rfl,qz,hqz1,hqz2⟩:=rp_of hinv.sb hpv
  rw [Zij (ZhO hB.1)] at hv
  -- the two new blocks
  have hadf:a.defers=[]:=hinv.df.1.trans hdf.1
  refine wpIn_rangeFunc ?_
  intro fn _
  let rec0:LoopState→Loop:=fun st=>{state:=st,pending:=none,fn:=fn,tmps:=a.tmps,params:=ps,assign:=assign,body:=body,defers:=w.heap.size}
  let D:=w.heap.size
  let L:=w.heap.size+1
  have hOD:C.Ow D:=hinv.fo _ hinv.fr.size
  have hOL:C.Ow L:=hinv.fo _ (Nat.le_succ_of_le hinv.fr.size)
  have hqzlt:∀ q,q∈qz→q.1<D:=fun q hq=>hinv.sb _ (hqz1 q hq).1
  have hi1:=hinv.lay (.deferred (some [])) (a':=a) (dfs:=[]) (qb:=(D,.deferred (some []))::qz) rfl hadf (fun q hq=>by
    rcases List.mem_cons.1 hq with rfl | hq
    · exact ⟨.inr rfl,World.alloc_heap_new w _⟩
    · exact ⟨.inl (hqz1 q hq).1,(ZcM w _ _ (hqzlt q hq)).trans (hqz1 q hq).2⟩)
  have hsz1:(w.alloc (.deferred (some []))).heap.size=L:=by rw [World.size_alloc]
  have hi2:=hi1.lay (.loop (rec0 .ready)) (a':=a) (dfs:=[]) (qb:=(L,.loop (rec0 .ready))::(D,.deferred (some []))::qz) rfl hadf (fun q hq=>by
    rcases List.mem_cons.1 hq with rfl | hq
    · refine ⟨.inr hsz1.symm,?_⟩
      have:=World.alloc_heap_new (w.alloc (.deferred (some []))) (.loop (rec0 .ready))
      rw [hsz1] at this;exact this
    · have h:=hi1.df.2.2 q hq
      exact ⟨.inl h.1,(ZcM _ _ _ (hi1.sb _ h.1)).trans h.2⟩)
  generalize hW1:(w.alloc (.deferred (some []))).alloc (.loop (rec0 .ready))=W1 at hi2
  generalize hS2:(fun b=>(S b∨b=w.heap.size)∨b=(w.alloc (.deferred (some []))).heap.size)=S2 at hi2
  obtain ⟨ι1,hi3⟩:=hi2.cov hcov
  -- the head of a round
  let Cr:LoopState→Cx:=fun st=>{C with N:=⟨lo,C.N.n,true⟩,kv:=fun t=>a.tmps.getD t undef,dfs:=[],qb:=(L,.loop (rec0 st))::(D,.deferred (some []))::qz}
  let a0:Act:={tmps:=a.tmps,defers:=[]}
  let J:Nat→World→Prop:=fun k W=>∃ x S ι,I k x∧Inv (Cr .ready) S ι (fun y=>nx'≤y) (toFS gx (osx x)) a0 W
  have hJ0:J 0 W1:=⟨x0,_,_,hI0,hi3.act (a':=a0) hgx (fun t _=>rfl) ⟨lo,C.N.n,true⟩ (fun t=>a.tmps.getD t undef) [] _ hinv.sz rfl (fun t _=>rfl) hi3.df.2.2⟩
  refine ⟨L,[mark D],W1,{target:=.fn (.func fB) #[.pointer (some pa)],args:=#[.func (.yield L) #[] #[]]},W1,fB,#[.func (.yield L) #[] #[]] ++ #[.pointer (some pa)],W1,?_,?_,fun _ _=>trivial,?_,fun h=>(by cases h),?_⟩
  · rw [← hW1];exact run_enterLoop_outer _ _ _ _ _
  · simp only [resolve,hv]
    simp [go_sem]
  · simp [invoke,go_sem,Zky hB.1]
  · have hqr:∀ k W,J k W→W.heap[L]? = some (.loop (rec0 .ready))∧W.heap[D]? = some (.deferred (some []))∧∀ q,q∈qz→W.heap[q.1]? = some q.2:=by
      rintro k W ⟨x,S,ι,_,hi⟩
      exact ⟨(hi.df.2.2 (L,.loop (rec0 .ready)) (by simp [Cr])).2,(hi.df.2.2 (D,.deferred (some [])) (by simp [Cr])).2,fun q hq=>(hi.df.2.2 q (by simp [Cr,hq])).2⟩
    refine CallsIn.mono (hB.2 L pa zs J W1 hlz (fun k W hk=>hqz2 W (hqr k W hk).2.2) ?_ hJ0) ?_
    · -- one round
      rintro k z W hkz ⟨x,S,ι,hIk,hi⟩
      have hLr:W.heap[L]? = some (.loop (rec0 .ready)):=(hi.df.2.2 (L,.loop (rec0 .ready)) (by simp [Cr])).2
      have hpsz:ps = #[p,q]:=by
        apply Array.toList_inj.1
        rw [hps]
      have hy:=run_yield (P:=P) (args:=#[.int .i64 ((zs.length - 1 - k:Nat):Int),.int .i64 z]) hLr (by show 2=ps.size;rw [hpsz];rfl)
      refine ⟨_,_,_,_,hy,roundIn_of_wpIn trivial ?_⟩
      have htm : (((rec0 .ready).params.zip #[Value.int .i64 ((zs.length - 1 - k : Nat) : Int), .int .i64 z]).foldl (fun tmps (t, a) => tmps.setIfInBounds t a) (rec0 .ready).tmps)
          = (a.tmps.setIfInBounds p (.int .i64 ((zs.length - 1 - k:Nat):Int))).setIfInBounds q (.int .i64 z):=by
        show ((ps.zip _).foldl _ a.tmps)=_
        rw [hpsz];simp
      have hput:=(hi.put (dst:=some p) (v:=.int .i64 ((zs.length - 1 - k:Nat):Int)) (v':=.int .i64 ((zs.length - 1 - k:Nat):Int)) (.imm _ _ (.int _ _)) (fun d e=>by
          injection e with e;subst e;exact ⟨hp1,hp2⟩)).put (dst:=some q) (v:=.int .i64 z) (v':=.int .i64 z) (.imm _ _ (.int _ _)) (fun d e=>by
          injection e with e;subst e;exact ⟨hq1,hq2⟩)
      rw [Zlz,Zlz] at hput
      have hb1:=hX (Cr .ready) lo false _ _ _ _ L rfl rfl rfl (hround k z x hkz hIk) S ι _ W hput
      rw [show (rec0 .ready).assign=(bif false then body else assign) from rfl,htm]
      refine wpIn_mono hb1 ?_
      intro e a1 w1 he
      cases e with
      | normal =>
        obtain ⟨g1,os1,nx1,S1,ι1,hX1,hi1⟩:=he
        have h1:=hi1.df.2.2 (L,.loop (rec0 .ready)) (by simp [Cr])
        refine ⟨_,run_beginRound h1.2 rfl,?_⟩
        have hne:∀ q,q∈qz→q.1≠L:=fun q hq e=>by have:=hqzlt q hq;simp only [D,L] at this e;omega
        have hi1b:Inv (Cr .busy) S1 ι1 (fun x=>nx1≤x) (toFS g1 os1) a1 (w1.putObj L (.loop (rec0 .busy))):=hi1.poke (o':=.loop (rec0 .busy)) (a':=a1) (dfs:=[]) (qb:=(L,.loop (rec0 .busy))::(D,.deferred (some []))::qz)
          h1.1 hOL h1.2 rfl rfl rfl hi1.df.1 (fun q hq=>by
            rcases List.mem_cons.1 hq with rfl | hq
            · exact ⟨h1.1,World.putObj_heap_same (hi1.sb _ h1.1)⟩
            · have h:=hi1.df.2.2 q (by simp only [Cr];exact List.mem_cons_of_mem _ hq)
              refine ⟨h.1,(World.putObj_heap_other ?_).trans h.2⟩
              rcases List.mem_cons.1 hq with rfl | hq
              · simp only [D,L];omega
              · exact hne q hq)
        have hb2:=hX (Cr .busy) lo true _ _ _ _ L rfl rfl rfl hX1 S1 ι1 a1 _ hi1b
        refine wpIn_mono hb2 ?_
        intro e a2 w2 he
        cases e with
        | normal =>
          obtain ⟨g2,os2,nx2,S2,ι2,⟨x',σ,hI',hcov'⟩,hi2⟩:=he
          have h2:=hi2.df.2.2 (L,.loop (rec0 .busy)) (by simp [Cr])
          refine ⟨_,_,run_endRound none h2.2,rfl,x',S2,?_⟩
          have hi2b:Inv (Cr .ready) S2 ι2 (fun x=>nx2≤x) (toFS g2 os2) a2 (w2.putObj L (.loop (rec0 .ready))):=hi2.poke (o':=.loop (rec0 .ready)) (a':=a2) (dfs:=[]) (qb:=(L,.loop (rec0 .ready))::(D,.deferred (some []))::qz)
            h2.1 hOL h2.2 rfl rfl rfl hi2.df.1 (fun q hq=>by
              rcases List.mem_cons.1 hq with rfl | hq
              · exact ⟨h2.1,World.putObj_heap_same (hi2.sb _ h2.1)⟩
              · have h:=hi2.df.2.2 q (by simp only [Cr];exact List.mem_cons_of_mem _ hq)
                refine ⟨h.1,(World.putObj_heap_other ?_).trans h.2⟩
                rcases List.mem_cons.1 hq with rfl | hq
                · simp only [D,L];omega
                · exact hne q hq)
          obtain ⟨ι3,hi3⟩:=hi2b.cov hcov'
          refine ⟨ι3,hI',?_⟩
          exact hi3.act (a':=a0) hgx (fun t ht=>(hi3.df.2.1 t ht).symm) ⟨lo,C.N.n,true⟩ (fun t=>a.tmps.getD t undef) [] _ hinv.sz rfl (fun t _=>rfl) hi3.df.2.2
        | _=>exact he.elim
      | _=>exact he.elim
    · -- behind the loop
      rintro e W2 ⟨⟨v,rfl⟩,x,S3,ι3,hIx,hi⟩
      have h1:=hi.df.2.2 (L,.loop (rec0 .ready)) (by simp [Cr])
      have h2:=hi.df.2.2 (D,.deferred (some [])) (by simp [Cr])
      refine ⟨none,_,run_endLoop h1.2 (by simp [rec0]),?_⟩
      have hi4:=hi.poke (o':=.loop {rec0 .ready with state:=.exhausted}) (a':=a0) (dfs:=[]) (qb:=[(D,.deferred (some []))]) h1.1 hOL h1.2 rfl rfl rfl rfl (fun q hq=>by
        rw [List.mem_singleton.1 hq]
        exact ⟨h2.1,(World.putObj_heap_other (by simp only [D,L];omega)).trans h2.2⟩)
      have hi5:=hi4.act (a':={a with defers:=[mark D]++a.defers}) hgx (fun t _=>rfl) {C.N with no:=true} C.kv [mark D] [(D,.deferred (some []))] hinv.sz (by rw [hadf];rfl) hinv.df.2.1 hi4.df.2.2
      exact hK D _ _ _ (hend x hIx) hOD _ _ _ _ hi5
end Go.Ab
namespace Go.Ab
theorem Ziv {P:Program} {C C':Cx} {r:Option Nat} {B:Exit→Act→World→Prop}:∀ {k:List Frm},Znu k=true→KQ P C r B k=KQ P C' r B k
  | [],_=>rfl
  | .code c::k,h=>by simp only [KQ];rw [Ziv (C':=C') (k:=k) h]
  | .blk id::k,h=>by simp only [KQ];rw [Ziv (C':=C') (k:=k) h]
  | .stop _::_,h=>by cases h
theorem Zlu {P : Program} (hm : P.follows .mixedOrders = true) (n : Nat) : ∀ {r : Option Nat} {C : Cx} {fin : Tm → Os → Prop} {B : Exit → Act → World → Prop}
    (_:C.N.no=false→r=none∧C.dfs=[]∧C.qb=[])
    (_:∀ C',C.to C'→∀ g os,fin g os→∀ S ι un a w,Inv C' S ι un (toFS g os) a w→B .normal a w∧B .ret a w)
    (k:List Frm) (g:Tm) (os:Os) (nx:Nat),xcode P C.G C.N C.m fin n k g os nx→∀ S ι a w,Inv C S ι (fun x=>nx≤x) (toFS g os) a w→KQ P C r B k .normal a w:=by
  induction n with
  | zero=>intro r C fin B hr hfin k g os nx h;exact h.elim
  | succ n ihA =>
    intro r C fin B hr hfin k g os nx h S ι a w hinv
    have ih:=fun (k:List Frm) (g:Tm) (os:Os) (nx:Nat) (h:xcode P C.G C.N C.m fin n k g os nx)=>ihA hr hfin k g os nx h
    cases k with
    | nil=>exact (hfin C .refl g os h S ι _ a w hinv).1
    | cons f k =>
      cases f with
      | blk id=>exact ih k g os nx h S ι a w hinv
      | stop κ=>exact ⟨g,os,nx,S,ι,h,hinv⟩
      | code c =>
        show c.wpIn (WF r) 0 P (KQ P C r B k) a w
        simp only [xcode] at h
        rcases orJ_e h with h | ⟨R,gx,osx,nx',hbody,hK⟩
        rotate_left
        · have h1:c.wpIn (WF r) 0 P (KQ P C r B (.stop _::k)) a w:=ih _ g os nx hbody S ι a w hinv
          refine wpIn_mono (Exit.then_mono (N2:=KQ P C r B k .normal) h1 ?_) ?_
          · rintro a' w' ⟨g',os',_,S',ι',⟨hR,σ,hc⟩,hinv'⟩
            obtain ⟨ι2,hinv2⟩:=hinv'.cov hc
            exact ih k gx osx nx' (hK hR) S' ι2 a' w' hinv2
          · intro e a' w' hq
            cases e<;>exact hq
        cases c with
        | skip=>exact wpIn_skip (ih k g os nx h S ι a w hinv)
        | seq x y=>exact wpIn_seq (ih _ g os nx h S ι a w hinv)
        | cond c x y =>
          simp only at h
          split at h
          · rename_i b hb
            have hv:=hinv.ev c
            rw [show (toFS g os).g=lookG g from rfl,hb] at hv
            rcases brn_e h with ⟨hbb,h'⟩ | ⟨hbb,h'⟩
            · subst hbb
              exact wpIn_cond_true hv.bool_inv (ih _ g os nx h' S ι a w hinv)
            · subst hbb
              exact wpIn_cond_false hv.bool_inv (ih _ g os nx h' S ι a w hinv)
          · rename_i p hb
            have hv:=hinv.ev c
            rw [show (toFS g os).g=lookG g from rfl,hb] at hv
            obtain ⟨b,hv,hp⟩:=hv.anyb_inv
            cases b with
            | true=>exact wpIn_cond_true hv (ih _ g os nx (h.1 (hp rfl)) S ι a w hinv)
            | false=>exact wpIn_cond_false hv (ih _ g os nx h.2 S ι a w hinv)
          · exact h.elim
        | block id c=>exact wpIn_block (ih _ g os nx h S ι a w hinv)
        | exit id =>
          simp only at h
          split at h
          · rename_i k' hk
            exact wpIn_exit (ZqD hk (ih k' g os nx h S ι a w hinv))
          · exact h.elim
        | ret=>exact wpIn_ret (Zrc (hfin C .refl g os h S ι _ a w hinv).2)
        | region id ops draw =>
          simp only at h
          rcases brn_e h with ⟨hdst,h'⟩ | ⟨_,h'⟩
          · obtain ⟨g',os',ext,hK,hlen,hch⟩:=ZpL (N:=C.N) ops.toList 0 g os [] _ (fun k o hk=>by simpa using hk) hdst rfl h'
            simp only [List.append_nil,Array.length_toList] at hK hlen hch
            have hchain:=hch (logOf ext) (fun k _ _=>rfl)
            rw [ZkV] at hchain
            cases draw with
            | false =>
              exact ZjR hm hchain (fun e=>by cases e) hinv (Zim hdst) (fun S' ι' a' w' hinv'=>ih k g' os' _ (cast (fN_eq _ _) hK) S' ι' a' w' hinv')
            | true =>
              exact ZjR hm hchain (fun _=>hK.1) hinv (Zim hdst) (fun S' ι' a' w' hinv'=>ih k g' os' _ (cast (fN_eq _ _) hK.2) S' ι' a' w' hinv')
          · exact h'.elim
        | loop body =>
          simp only at h
          obtain ⟨α,gx,osx,nx',I,μ,x0,σ0,hI,hcov,hround⟩:=h
          refine Zmg (fun m a w=>∃ x S ι,I x∧μ x=m∧Inv C S ι (fun y=>nx'≤y) (toFS (gx x) (osx x)) a w) ?_ (μ x0) a w ?_
          · rintro m a w ⟨x,S,ι,hIx,rfl,hinv⟩
            have:=ih _ _ _ _ (hround x hIx) S ι a w hinv
            refine Exit.then_mono this ?_
            rintro a' w' ⟨g',os',nx'',S',ι',⟨x',σ,hI',hlt,hc⟩,hinv'⟩
            obtain ⟨ι2,hinv2⟩:=hinv'.cov hc
            exact ⟨μ x',hlt,x',S',ι2,hI',rfl,hinv2⟩
          · obtain ⟨ι2,hinv2⟩:=hinv.cov hcov
            exact ⟨x0,S,ι2,hI,rfl,hinv2⟩
        | rangeFunc gop ps assign body =>
          simp only at h
          obtain ⟨hno,hR⟩:=h
          simp only [Bool.and_eq_true,Bool.not_eq_true'] at hno
          obtain ⟨hr0,hdf⟩:=hr hno.1
          subst hr0
          refine ZoK hdf ?_ ?_ hR hinv
          · intro C' lo b κ g1 os1 nx1 l hN hG hM hx S1 ι1 a1 w1 hi1
            have:=ihA (r:=some l) (C:=C') (fin:=fun _ _=>False) (B:=fun _ _ _=>False) (fun h=>by rw [hN] at h;cases h) (fun _ _ _ _ h=>h.elim) [.code (bif b then body else assign),.stop κ] g1 os1 nx1
              (by rw [hN,hG,hM];exact hx) S1 ι1 a1 w1 hi1
            exact this
          · intro D g1 os1 nx1 hk hO S1 ι1 a1 w1 hi1
            rw [Ziv (C':=C.ranged D) hno.2]
            exact ihA (r:=none) (C:=C.ranged D) (fun h=>by simp [Cx.ranged] at h) (fun C' hto=>by
              cases hto with
              | refl=>exact hfin _ (.ranged D hno.1 hO)
              | ranged D' h' _=>simp [Cx.ranged] at h') k g1 os1 nx1 hk S1 ι1 a1 w1 hi1
        | _=>exact h.elim
end Go.Ab
namespace Go.Ab
inductive Fills:Os→Os→Prop
  | refl (os:Os):Fills os os
theorem Inv.fills {C:Cx} {S:Nat→Prop} {w:World} {ι:Imap} {un:Nat→Prop} {g:Tm} {os os2:Os} (hF:Fills os os2) {a:Act} (h:Inv C S ι un (toFS g os) a w):Inv C S ι un (toFS g os2) a w:=by
  induction hF with
  | refl=>exact h
end Go.Ab
namespace Go.Ab
def argsG:List AV→Nat→Tm
  | [],_=>[]
  | x::r,i=>(i,x)::argsG r (i+1)
def resA (P:Program) (g:Tm) (os:Os):List ResultVar→Option (List AV)
  | []=>some []
  | .tmp t::r=>(resA P g os r).map (lookG g t :: ·)
  | .cell a t::r=>match lookG g a with
    | .ptr o i c=>match rowsR (lk os) o with
      | some rs=>match rs[i]? with
        | some row=>match ZeK P t row c with
          | some v=>(resA P g os r).map (v :: ·)
          | none=>none
        | none=>none
      | none=>none
    | _=>none
def one (l:List AV):AV :=
  match l with
  | [v]=>v
  | l=>.tup l
def finC (P:Program) (rs:List ResultVar) (Qr:AV→Prop) (g:Tm) (os:Os):Prop :=
  opt (resA P g os rs) fun vs=>opt (Za8 (os.map (·.1)) (lk os) 8 (one vs)) fun rv=>fAV rv fun rv=>Qr rv
theorem ZmN:∀ (l:List AV) (i t:Nat),lookG (argsG l i) t=if i≤t∧t<i+l.length then l.getD (t - i) .undef else .undef:=by
  intro l
  induction l with
  | nil=>intro i t;simp [argsG,lookG]
  | cons x r ih =>
    intro i t
    simp only [argsG,lookG]
    by_cases h:t=i
    · subst h;simp
    · rw [if_neg h,ih]
      by_cases h1:i+1≤t∧t<i+1+r.length
      · rw [if_pos h1,if_pos (by simp;omega)]
        rw [show t - i=(t - (i+1))+1 by omega]
        simp
      · rw [if_neg h1,if_neg (by simp;omega)]
theorem ZqR {P : Program} {C : Cx} {S : Nat → Prop} {ι : Imap} {un : Nat → Prop} {g : Tm} {os : Os} {a : Act} {w : World} (h : Inv C S ι un (toFS g os) a w) :
    ∀ (rs:List ResultVar) (vs:List AV),resA P g os rs=some vs →
      ∃ us:List Value,(rs.mapM (fun r=>match r with | .tmp t=>pure (a.tmps.getD t undef) | .cell x t=>do loadVar t (← asAddr (a.tmps.getD x undef)):ResultVar→Sem Value)).run P w = .ok us w ∧
        RepL S w ι vs us:=by
  intro rs
  induction rs with
  | nil=>intro vs hv;simp only [resA,Option.some.injEq] at hv;subst hv;exact ⟨[],rfl,.nil⟩
  | cons r rs ih =>
    intro vs hv
    cases r with
    | tmp t =>
      simp only [resA,Option.map_eq_some_iff] at hv
      obtain ⟨vs',h1,rfl⟩:=hv
      obtain ⟨us,h2,h3⟩:=ih vs' h1
      refine ⟨a.tmps.getD t undef::us,?_,RepL.cons (h.tm t) h3⟩
      simp only [List.mapM_cons,Sem.run_bind,Sem.run_pure,Result.andThen_ok,h2]
    | cell x t =>
      simp only [resA] at hv
      split at hv
      · rename_i o i c hx
        split at hv
        · rename_i rws hr
          split at hv
          · rename_i row hrow
            split at hv
            · rename_i v hl
              simp only [Option.map_eq_some_iff] at hv
              obtain ⟨vs',h1,rfl⟩:=hv
              obtain ⟨us,h2,h3⟩:=ih vs' h1
              have ht:=h.tm x
              rw [show (toFS g os).g x=lookG g x from rfl,hx] at ht
              obtain ⟨l,hl1,hv⟩:=ht.ptr_inv
              obtain ⟨y,hy,hy'⟩:=ZeG hr
              rcases Zgd (h.ob o y hy) hy' with ⟨q,rfl⟩ | ⟨l',vals,q,hcnt,hat,hrep⟩
              · simp at hrow
              · rw [q] at hl1;injection hl1 with hl1;injection hl1 with hl1;subst hl1
                have hi:=ZaQ hrow
                obtain ⟨v',h4,h5⟩:=Zge (P:=P) (b0:=l'.base+i * l'.esz) (hrep _ _ hrow) (fun j v hv=>by
                  have:=hat.2.2 i j v hi hv
                  rw [← Nat.add_assoc] at this;exact this) hl
                refine ⟨v'::us,?_,RepL.cons h5 h3⟩
                rw [← Nat.add_assoc] at hv
                have ha:(asAddr (a.tmps.getD x undef)).run P w = .ok ⟨l'.blk,l'.base+i * l'.esz+c,none⟩ w:=by rw [hv];rfl
                simp only [List.mapM_cons,Sem.run_bind,ha,Sem.run_pure,Result.andThen_ok,h4,h2]
            · cases hv
          · cases hv
        · cases hv
      · cases hv
theorem Zg8 {P : Program} {C : Cx} {S : Nat → Prop} {ι : Imap} {un : Nat → Prop} {g : Tm} {os : Os} {a : Act} {w : World} (h : Inv C S ι un (toFS g os) a w)
    {fn:Func} {vs:List AV} (hv:resA P g os fn.results.toList=some vs):∃ v,(results fn a.tmps).run P w = .ok v w∧Rep S w ι (one vs) v:=by
  obtain ⟨us,h1,h2⟩:=ZqR (P:=P) h fn.results.toList vs hv
  have hrun:(results fn a.tmps).run P w = .ok (if h:us.toArray.size=1 then us.toArray[0] else .tuple us.toArray) w:=by
    unfold results
    rw [Sem.run_bind,Array.mapM_eq_mapM_toList]
    simp only [Sem.run_map]
    generalize hX:Sem.run P (List.mapM _ fn.results.toList) w=X
    have:X = .ok us w:=by rw [← hX];exact h1
    rw [this]
    simp only [Result.andThen_ok,Sem.run_pure]
  refine ⟨_,hrun,?_⟩
  have hlen:=h2.1
  unfold one
  split
  · rename_i v
    have:us.length=1:=by rw [← hlen];rfl
    obtain ⟨u,rfl⟩:=List.length_eq_one_iff.1 this
    simp only [List.size_toArray,List.length_singleton,dite_true]
    exact h2.2 0 v u rfl rfl
  · rename_i hne
    have:us.length≠1:=by
      intro e
      rw [← hlen] at e
      obtain ⟨u,rfl⟩:=List.length_eq_one_iff.1 e
      exact hne u rfl
    rw [dif_neg (by simpa using this)]
    exact RepL.tupr (by simpa using h2)
theorem Zie {G : Gmap} {fn : Func} {args : List AV} {S0 : Nat → Prop} {ι0 : Imap} {w0 : World} {vs : Array Value} {oin : Os} (hsz : args.length ≤ fn.ntmps)
    (h0:∀ b,S0 b→b<w0.heap.size) (hG:GOk G S0 w0) (hob:Zf7 (OwOf w0 ι0 oin) S0 w0 ι0 (lk oin)) (hι:∀ o,oin.length≤o→ι0 o=none) (hW:oin.length≤W) (him:∀ j L,ι0 j=some L→j<oin.length) (hL:RepL S0 w0 ι0 args vs.toList) :
    Inv ⟨G,w0,⟨0,fn.ntmps,false⟩,OwOf w0 ι0 oin,S0,oin.length,ι0,him,fun _=>undef,[],[]⟩ S0 ι0 (fun x=>W≤x) (toFS (argsG args 0) oin) {tmps:=vs++Array.replicate (fn.ntmps - vs.size) undef,defers:=[]} w0:=by
  have hlen:=hL.1
  simp only [Array.length_toList] at hlen
  refine ⟨fun t=>?_,?_,⟨rfl,fun t ht=>absurd ht (Nat.not_lt_zero t),fun q hq=>(by cases hq)⟩,hob.ob,hob.own,hob.inj,h0,fun b hb=>.inl hb,fun o ho=>hι o (Nat.le_trans hW ho),⟨rfl,rfl,Nat.le_refl _,fun b _ _=>rfl⟩,fun b hb=>.inl hb,hG,fun b hb=>hb,fun j L e=>e⟩
  · show Rep S0 w0 ι0 (lookG (argsG args 0) t) _
    rw [ZmN]
    split
    · rename_i ht
      have ht':t<args.length:=by omega
      have hx:args[t]? = some args[t]:=List.getElem?_eq_getElem ht'
      have hv:vs.toList[t]? = some vs[t]:=by simp
      have e1:args.getD (t - 0) .undef=args[t]:=by simp [List.getD_eq_getElem?_getD,hx]
      have e2:(vs++Array.replicate (fn.ntmps - vs.size) undef).getD t undef=vs[t]:=by
        rw [Array.getD_eq_getD_getElem?,Array.getElem?_append_left (by omega)]
        simp [show t<vs.size by omega]
      rw [e1,e2]
      exact hL.2 t _ _ hx hv
    · exact .imm _ _ (.undef _)
  · simp;omega
theorem ZqJ {P:Program} {G:Gmap} {f:Nat} {oin:List (Nat×AO)} {args args':List AV} {rv:AV} {os':List (Nat×AO)} (hw:WkL args args') (h:FC P G f oin args' rv os'):FC P G f oin args rv os' :=
  ⟨h.1,h.2.1,fun S0 ι0 w0 vs h0 hG hob hι hL=>h.2.2 S0 ι0 w0 vs h0 hG hob hι (hw.repL hL)⟩
theorem Zhh {P : Program} {C : Cx} {f : Nat} {fn : Func} {c : Code} {vs : Array Value} {R : Ending → World → Prop} {fin : Tm → Os → Prop} {fuel : Nat} {g : Tm} {os : Os} {nx : Nat} {S : Nat → Prop} {ι : Imap} {w0 : World}
    (hm:P.follows .mixedOrders=true) (hf:P.funcs[f]? = some fn) (hb:fn.body=some c) (hC:C.dfs=[]∧C.qb=[])
    (hinv:Inv C S ι (fun x=>nx≤x) (toFS g os) {tmps:=vs++Array.replicate (fn.ntmps - vs.size) undef,defers:=[]} w0)
    (h:xcode P C.G C.N C.m fin fuel [.code c] g os nx)
    (hfin:∀ N dfs qb,∀ g os,fin g os→∀ S ι un a w,Inv {C with N:=N,dfs:=dfs,qb:=qb} S ι un (toFS g os) a w→∃ v,(results fn a.tmps).run P w = .ok v w∧R (.returned v) w):Calls P f vs w0 R:=by
  refine callsIn_wide.1 (callsIn_of_wp_marks (F:=Fence.wide) (n:=0) hf hb trivial ?_)
  refine Zlu (r:=none) (B:=bodyPostM Fence.wide 0 P fn R) hm fuel (fun _=>⟨rfl,hC⟩) ?_ [.code c] _ _ _ h S ι _ w0 hinv
  intro C' hto g os hfn S ι un a w hi
  have key:LeavesInM Fence.wide 0 P fn a.tmps R a.defers .returning w:=by
    cases hto with
    | refl =>
      rw [hi.df.1,hC.1]
      exact hfin C.N C.dfs C.qb g os hfn S ι un a w hi
    | ranged D hno hO =>
      have hd:a.defers=[mark D]:=hi.df.1
      obtain ⟨hS,hD⟩:=hi.df.2.2 (D,.deferred (some [])) (by simp [Cx.ranged])
      have hi2:=hi.poke (o':=.deferred none) (a':=a) (dfs:=a.defers) (qb:=[]) hS hO hD rfl rfl rfl rfl (fun q hq=>by cases hq)
      rw [hd]
      refine ⟨by simp,.inl ⟨D,_,rfl,run_takeDeferred hD,?_⟩⟩
      exact hfin _ a.defers [] g os hfn S ι un a _ hi2
  exact ⟨key,key⟩
theorem FC_of {P : Program} {G : Gmap} {f : Nat} {fn : Func} {c : Code} {args : List AV} {rv : AV} (fuel : Nat) (hf : P.funcs[f]? = some fn) (hb : fn.body = some c)
    (hn:callB P f=true) (hm:P.follows .mixedOrders=true) (hsz:args.length≤fn.ntmps)
    (h:xcode P G ⟨0,fn.ntmps,false⟩ 0 (finC P fn.results.toList fun r=>r=rv) fuel [.code c] (argsG args 0) [] W):FC P G f [] args rv []:=by
  refine ⟨hn,fun o x hx=>by simp [lk] at hx,fun S0 ι0 w0 vs h0 hG hob hι hL=>?_⟩
  have him:∀ j L,ι0 j=some L→j<([]:Os).length:=fun j L e=>by rw [hι j (Nat.zero_le _)] at e;cases e
  have hinv:=Zie (fn:=fn) hsz h0 hG hob hι (Nat.zero_le _) him hL
  refine Zhh hm hf hb ⟨rfl,rfl⟩ hinv h ?_
  intro N dfs qb g os hfin S ι un a w hi
  obtain ⟨rs,hrs,h2⟩:=opt_e hfin
  obtain ⟨rv',hrv,h3⟩:=opt_e h2
  rw [Zd6] at h3
  subst h3
  obtain ⟨v,hv1,hv2⟩:=Zg8 (P:=P) hi hrs
  have hcl:=Zel hi.ob 8 _ _ _ hv2 hrv
  have hR : ∃ v' S' ι', Ending.returned v = .returned v' ∧ Fr (OwOf w0 ι0 []) w0 w ∧ (∀ b, S' b → (S0 b ∨ OwOf w0 ι0 [] b) ∧ b < w.heap.size) ∧ (∀ b, S0 b → S' b) ∧ ι0.le ι' ∧
      (∀ o,W≤o→ι' o=none)∧Rep S' w ι' rv' v'∧Zf7 (OwOf w0 ι0 []) S' w ι' (lk []):=by
    refine ⟨v,SV S ι (toFS g os).os (os.map (·.1)),ι0,rfl,hi.fr,fun b hb=>⟨?_,SV_lt hi _ b hb⟩,?_,Imap.le_refl _,fun o _=>hι o (Nat.zero_le _),.imm _ _ hcl,
      ⟨fun o x hx=>by simp [lk] at hx,fun o x hx=>by simp [lk] at hx,fun o o' x x' hx=>by simp [lk] at hx⟩⟩
    · rcases hb with hb | ⟨o,x,l,_,hx,hl,rfl⟩
      · exact hi.sn b hb
      · by_cases hlv:x.live=true
        · exact .inr (hi.own o x hx hlv l hl _ (.inl rfl)).1
        · have hob2:=hi.ob o x hx
          cases x with
          | froz rs =>
            rcases hob2 with ⟨q,_⟩ | ⟨l',vals,q,_,hS,_⟩
            · rw [q] at hl;cases hl
            · rw [q] at hl;injection hl with hl;injection hl with hl;subst hl
              exact hi.sn _ hS
          | rows p rs=>exact absurd rfl hlv
          | mapo p es=>exact absurd rfl hlv
          | lit rs=>exact absurd rfl hlv
    · exact fun b hb=>.inl (hi.s0 b hb)
  exact ⟨v,hv1,hR⟩
def finG (P:Program) (rs:List ResultVar) (_m:Nat) (Qr:AV→Os→Prop) (g:Tm) (os:Os):Prop :=
  opt (resA P g os rs) fun vs=>fAV (one vs) fun v=>fO os fun os=>Qr v os
structure EndG (m:Nat) (rv:AV) (os':Os) (v:AV) (os:Os):Prop where
  h:∃ os2 σ,Fills os os2∧Cov m [(0,v)] os2 σ [(0,rv)] os' W
theorem ZiQ {m : Nat} {rv : AV} {os' : Os} {v : AV} {os : Os} (σ : List (Nat × Nat)) (h2 : renAV (ap σ) rv = v)
    (h3:os'.map (fun e=>some (renO (ap σ) e.2))=os'.map fun e=>lk os (ap σ e.1))
    (h1:(idsB W rv && os'.all (fun e=>decide (e.1<W) && idsBO W e.2) && decide ((os'.map fun e=>ap σ e.1).Nodup) && decide (m≤W) && (List.range m).all (fun j=>ap σ j==j))=true) :
    EndG m rv os' v os:=⟨os,σ,.refl os,by simpa using h1,.of_eq (by simp [lookG,h2]),.of_eq h3⟩
theorem ZpE {m : Nat} {rv : AV} {os' : Os} {v : AV} {os : Os} (σ : List (Nat × Nat)) (h2 : Wk v (renAV (ap σ) rv))
    (h3:WkOs (os'.map fun e=>lk os (ap σ e.1)) (os'.map fun e=>some (renO (ap σ) e.2)))
    (h1:(idsB W rv && os'.all (fun e=>decide (e.1<W) && idsBO W e.2) && decide ((os'.map fun e=>ap σ e.1).Nodup) && decide (m≤W) && (List.range m).all (fun j=>ap σ j==j))=true) :
    EndG m rv os' v os:=⟨os,σ,.refl os,by simpa using h1,by simpa [lookG,WkL] using h2,h3⟩
theorem ZkF {P : Program} {G : Gmap} {f : Nat} {fn : Func} {c : Code} {oin : Os} {args : List AV} {rv : AV} {os' : Os} (fuel : Nat) (hf : P.funcs[f]? = some fn) (hb : fn.body = some c)
    (hn:callB P f=true) (hm:P.follows .mixedOrders=true) (hsz:args.length≤fn.ntmps) (hin:oin.length≤W) (hos:(os'.all fun e=>decide (e.1<W))=true)
    (h:xcode P G ⟨0,fn.ntmps,false⟩ oin.length (finG P fn.results.toList oin.length (EndG oin.length rv os')) fuel [.code c] (argsG args 0) oin W):FC P G f oin args rv os':=by
  refine ⟨hn,fun o x hx=>?_,fun S0 ι0 w0 vs h0 hG hob hι hL=>?_⟩
  · have:=List.all_eq_true.1 hos _ (Zgs hx)
    simpa using this
  have him:∀ j L,ι0 j=some L→j<oin.length:=fun j L e=>by
    rcases Nat.lt_or_ge j oin.length with q | q
    · exact q
    · rw [hι j q] at e;cases e
  have hinv:=Zie (fn:=fn) hsz h0 hG hob hι hin him hL
  refine Zhh hm hf hb ⟨rfl,rfl⟩ hinv h ?_
  intro N dfs qb g os hfin S ι un a w hi
  obtain ⟨rs,hrs,h2⟩:=opt_e hfin
  rw [Zd6,fO_eq] at h2
  obtain ⟨os2,σ,hfl,hc⟩:=h2
  obtain ⟨v,hv1,hv2⟩:=Zg8 (P:=P) hi hrs
  let C':Cx:=⟨G,w0,⟨0,1,false⟩,OwOf w0 ι0 oin,S0,oin.length,ι0,him,fun _=>undef,[],[]⟩
  have hi':Inv C' S ι un (toFS [(0,one rs)] os) {tmps:=#[v],defers:=[]} w:=by
    refine ⟨fun t=>?_,rfl,⟨rfl,fun t ht=>absurd ht (Nat.not_lt_zero t),fun q hq=>(by cases hq)⟩,hi.ob,hi.own,hi.inj,hi.sb,hi.sn,hi.un,hi.fr,hi.fo,hi.gv,hi.s0,hi.hj⟩
    cases t with
    | zero=>exact hv2
    | succ t=>exact .imm _ _ (.undef _)
  obtain ⟨ι2,hi2⟩:=(Inv.fills hfl hi').cov hc
  have hrv:Rep S w ι2 rv v:=hi2.tm 0
  have hR : ∃ v' S' ι', Ending.returned v = .returned v' ∧ Fr (OwOf w0 ι0 oin) w0 w ∧ (∀ b, S' b → (S0 b ∨ OwOf w0 ι0 oin b) ∧ b < w.heap.size) ∧ (∀ b, S0 b → S' b) ∧ ι0.le ι' ∧
      (∀ o,W≤o→ι' o=none)∧Rep S' w ι' rv v'∧Zf7 (OwOf w0 ι0 oin) S' w ι' (lk os') :=
    ⟨v,S,ι2,rfl,hi2.fr,fun b hb=>⟨hi2.sn b hb,hi2.sb b hb⟩,hi2.s0,fun j L e=>hi2.hj j L e,hi2.un,hrv,⟨hi2.ob,hi2.own,hi2.inj⟩⟩
  exact ⟨v,hv1,hR⟩
theorem Zba {P : Program} {G : Gmap} {f : Nat} {args : List AV} {rv rv' : AV} {os' : Os} (h : FC P G f [] args rv os') (hV : Za8 (os'.map (·.1)) (lk os') 8 rv = some rv') :
    FC P G f [] args rv' []:=by
  refine ⟨h.1,fun o x hx=>by simp [lk] at hx,fun S0 ι0 w0 vs h0 hG hob hι hL=>?_⟩
  refine (h.2.2 S0 ι0 w0 vs h0 hG hob hι hL).mono ?_
  rintro e w' ⟨v,S',ι',rfl,hfr,hS1,hS2,hle,hιW,hrep,hob'⟩
  have hcl:=Zel hob'.ob 8 _ _ _ hrep hV
  refine ⟨v,SV S' ι' (lk os') (os'.map (·.1)),ι',rfl,hfr,fun b hb=>?_,fun b hb=>.inl (hS2 b hb),hle,hιW,.imm _ _ hcl,
    ⟨fun o x hx=>by simp [lk] at hx,fun o x hx=>by simp [lk] at hx,fun o o' x x' hx=>by simp [lk] at hx⟩⟩
  rcases hb with hb | ⟨o,x,l,_,hx,hl,rfl⟩
  · exact hS1 b hb
  · by_cases hlv:x.live=true
    · have:=hob'.own o x hx hlv l hl _ (.inl rfl)
      exact ⟨.inr this.1,this.2.2⟩
    · have hob2:=hob'.ob o x hx
      cases x with
      | froz rs =>
        rcases hob2 with ⟨q,_⟩ | ⟨l',vals,q,_,hS,_⟩
        · rw [q] at hl;cases hl
        · rw [q] at hl;injection hl with hl;injection hl with hl;subst hl
          exact hS1 _ hS
      | rows p rs=>exact absurd rfl hlv
      | mapo p es=>exact absurd rfl hlv
      | lit rs=>exact absurd rfl hlv
end Go.Ab
namespace Go.Ab
def cInt (k:IntKind) (n:Int):List AV:=[.int k n]
def cBool (b:Bool):List AV:=[.bool b]
def cStr (s:List UInt8):List AV:=[.str s]
def cSl {α:Type} (c:α→List AV) (l:List α):List AV:=[.sl (l.map c)]
theorem ZbE {α β:Type} {X:Option α} {f:α→Option β} {r:β} (h:Option.bind X f=some r):∃ y,X=some y∧f y=some r:=by
  cases X with
  | none=>cases h
  | some y=>exact ⟨y,rfl,h⟩
theorem Zl6 {α:Type} {b:Bool} {X Y:Option α} {r:α} (h:cond b X Y=some r) (hb:b=true):X=some r:=by subst hb;exact h
theorem Zl7 {α:Type} {b:Bool} {X Y:Option α} {r:α} (h:cond b X Y=some r) (hb:b=false):Y=some r:=by subst hb;exact h
theorem grd_e {α:Type} {p:Prop} {_:Decidable p} {X:Option α} {r:α} (h:cond (decide p) X none=some r):p∧X=some r:=by
  by_cases hp:p
  · rw [decide_eq_true hp] at h;exact ⟨hp,h⟩
  · rw [decide_eq_false hp] at h;cases h
theorem getE {α:Type} {X:List (List AV)} {c:α→List AV} {L:List α} {i:Nat} {y:α} (hX:X=L.map c) (h:L[i]? = some y):X[i]? = some (c y):=by
  subst hX;rw [List.getElem?_map,h];rfl
theorem cons2 {α:Type} {a b:α} {l l':List α} (h:a=b) (h':l=l'):a::l=b::l':=by subst h;subst h';rfl
def outR {R V:Type} [Inhabited V] (o:R ⊕ V):V:=Sum.elim (fun _=>default) id o
theorem Zhi {P:Program} {G:Gmap} {f:Nat} {args args':List AV} {rv:AV} {os:Os} (e:args=args') (h:FC P G f [] args rv os):FC P G f [] args' rv os:=e▸h
theorem Zc9 {R V α:Type} {f:R→α} {g:V→α} {e:R} {X:α} (h:Sum.elim f g (Sum.inl e)=X):f e=X:=h
theorem Zc8 {R V α:Type} {f:R→α} {g:V→α} {e:V} {X:α} (h:Sum.elim f g (Sum.inr e)=X):g e=X:=h
@[simp] theorem cInt_eq (k:IntKind) (n:Int):cInt k n=[.int k n]:=rfl
@[simp] theorem cBool_eq (b:Bool):cBool b=[.bool b]:=rfl
@[simp] theorem cStr_eq (s:List UInt8):cStr s=[.str s]:=rfl
@[simp] theorem cSl_eq {α:Type} (c:α→List AV) (l:List α):cSl c l=[.sl (l.map c)]:=rfl
@[simp] theorem enc8_eq (l:List UInt8):enc8 l=l.map fun b=>[.int .u8 b.toNat]:=rfl
@[simp] theorem setAt_eq {α:Type} (row:List α) (c:Nat) (xs:List α):setAt row c xs=row.take c++(xs++row.drop (c+xs.length)):=rfl
@[simp] theorem cut_nn {α:Type} (xs:List α) (a b:Nat):cut none none xs a b=xs:=rfl
@[simp] theorem cut_ns {α:Type} (h:Operand) (xs:List α) (a b:Nat):cut none (some h) xs a b=xs.take b:=rfl
@[simp] theorem cut_sn {α:Type} (l:Operand) (xs:List α) (a b:Nat):cut (some l) none xs a b=xs.drop a:=rfl
@[simp] theorem cut_ss {α:Type} (l h:Operand) (xs:List α) (a b:Nat):cut (some l) (some h) xs a b=(xs.take b).drop a:=rfl
theorem Zq2 {R V α:Type} [Inhabited V] {f:R→α} {g:V→α} {o:R ⊕ V} {X:α} (hR:o=Sum.inr (outR o)) (h:Sum.elim f g o=X):g (outR o)=X:=by
  rw [hR] at h;exact h
def okI (k:IntKind) (n:Int):Prop:=(Lit.int k n).wf=true
end Go.Ab
namespace Go.Ab
section
variable {Ow S:Nat→Prop} {ι:Imap} {w0 w:World}
end
end Go.Ab
