import Derived.Test.YtjpmdkgonlmddaaGreatDoorLG
set_option linter.unusedVariables false
set_option maxRecDepth 20000
namespace Go.T
open Go Go.Ab
theorem ZkL(s:List UInt8)(h:s.length≤1000000):Tot (Zcr FF s) fun y=>y.1<9223372036854775808:=by
 unfold Zcr
 refine Tot.grd (by unfold LIM;omega) (Tot.bind (Zic [1,1] (byI s) (by decide) (by simp) (Znj s) (by rw[Ziw];omega)) fun y _ hy=>Tot.cond (fun _=>.ret (by decide)) fun e=>?_)
 have hn:=(hy.1 (by simpa using e)).1
 have hl:=Zit hn
 exact Tot.get (by rw[hl];decide) fun a ha _=>Tot.get (by rw[hl];decide) fun _ _ _=>.ret (nfs_i hn _ _ ha).1
theorem ZqZ(rf:Zae)(c s t:Int)(k:Zae)(fs:Fs)(l:List Zaa)(f:List UInt8)(a b:Int)(hc:c<9223372036854775808):Tot (ZgJ FF rf c s t k fs l f a b) fun _=>True:=by
 unfold ZgJ
 have e:=Zkm [Zaf.mk 1 c [],Zaf.mk 1 (IntKind.wrap IntKind.i64 s) []] (fun f hm=>by
  simp only[List.mem_cons,List.not_mem_nil,or_false]at hm
  rcases hm with rfl|rfl
  ·exact Zgg hc
  ·exact Zgg (wlt _)) (by simp)
 refine Tot.of e ?_
 cases hb:encFs [Zaf.mk 1 c [],Zaf.mk 1 (IntKind.wrap IntKind.i64 s) []]with
 |none=>exact⟨_,rfl,trivial⟩
 |some b=>
  have h1:=ZiX hb
  simp only[Ziv h1,cond_true];exact⟨_,rfl,trivial⟩
structure NT(b:Nat)(l:List Zab)(n7 n8:List Int):Prop where
 le:l.length≤b
 l7:n7.length=l.length+1
 l8:n8.length=l.length+1
theorem NT.mono{b b':Nat}{l:List Zab}{n7 n8:List Int}(h:NT b l n7 n8)(hb:b≤b'):NT b' l n7 n8:=⟨Nat.le_trans h.le hb,h.l7,h.l8⟩
theorem ZnL(s:Int)(tb:Bool)(d:List UInt8)(h:d.length≤1000000):Tot (ZcM FF s tb (List.map (fun(b_14:UInt8)=>(((UInt8.toNat b_14):Nat):Int)) d)) fun _=>True:=by
 unfold ZcM
 exact Tot.grd (by rw[List.length_map];unfold LIM;omega) (.ret trivial)
theorem Zq8(at_:Int)(e:Zab)(c:List Int)(br:Bool)(gs:List (Int×group_node))(gk last:Int)(tb:Bool)(l:List Zab)(n7 n8:List Int)(n9:List Zag)(rf:Zae)(cnt sum:Int)(n10:List Zac)(m:List (mesh_pair×Int))(tot:Int)(k:Zae)(fs:Fs)(w:List Zaa)(f:List UInt8)(x y:Int)
 (b:Nat) (h:NT b l n7 n8) (hb:b≤100000000) (ha:1≤at_) (hm:at_≤9223372036854775807) (hd:e.Data.length≤4096):
 Tot (ZcX FF at_ e c br gs gk last tb l n7 n8 n9 rf cnt sum n10 m tot k fs w f x y) fun r=>∃br' tb' l' n7' n8',r=(c,br',last,tb',tot,l',n7',n8',n9,n10,w)∧NT (b+1) l' n7' n8':=by
 obtain⟨h1,h2,h3⟩:=h
 unfold ZcX
 refine Tot.test (fun q=>?_) fun q=>Tot.cond (fun q2=>?_) fun q2=>.ret ⟨_,_,_,_,_,rfl,by omega,h2,h3⟩
 ·rw[wi64 (by omega) (by omega)]
  refine Tot.bind (Q:=fun _=>True) (Tot.cond (fun _=>.ret trivial) fun _=>Tot.grd (by omega) (Tot.get (by omega) fun _ _ _=>Tot.get (by omega) fun _ _ _=>.ret trivial)) fun b2 _ _=>.ret ⟨_,_,_,_,_,rfl,by omega,h2,h3⟩
 ·rw[List.length_map,Int.toNat_natCast]
  refine Tot.get (by omega) fun _ _ _=>Tot.get (by omega) fun z _ _=>Tot.bind (Q:=fun _=>True) (Tot.cond (fun _=>.ret trivial) fun _=>.ret trivial) fun cn _ _=>Tot.grd (by unfold LIM;omega) (Tot.grd (by unfold LIM;omega) (Tot.get (by omega) fun _ _ _=>Tot.get (by omega) fun _ _ _=>Tot.grd (by unfold LIM;omega) (Tot.bind (ZnL _ _ _ (by omega)) fun mo _ _=>Tot.grd (by unfold LIM;omega) (.ret ⟨_,_,_,_,_,rfl,?_,?_,?_⟩))))
  ·simp;omega
  ·simp;omega
  ·simp;omega
theorem Zo2(from_:Int)(c:List Int)(br:Bool)(r:Zae)(cnt sum:Int)(gs:List (Int×group_node))(gk last:Int)(tb:Bool)(l:List Zab)(n7 n8:List Int)(n9:List Zag)(tot:Int)(k:Zae)(n10:List Zac)(m:List (mesh_pair×Int))(fs:Fs)(w:List Zaa)(f:List UInt8)(x y:Int)
 (b:Nat) (h:NT b l n7 n8) (hb:b≤90000000) (hr:ZmO r) (hf:0≤from_) (hf2:from_≤1099511627776) (hc:cnt<9223372036854775808):
 Tot (Zcy FF from_ c br r cnt sum gs gk last tb l n7 n8 n9 tot k n10 m fs w f x y) fun q=>∃br' cnt' sum' tb' l' n7' n8',q=(c,br',r,cnt',sum',last,tb',tot,l',n7',n8',n9,n10,w)∧NT (b+4096) l' n7' n8'∧cnt'<9223372036854775808:=by
 have hT:=hr.tr
 have b0:=hT.b0
 have bl:=hT.last
 have ll:=hT.len
 have c0:=hr.cm0
 have c1:=hr.cm1
 have h7:=h.l7
 have h8:=h.l8
 unfold Zcy
 refine Tot.bind (Q:=fun z:Int×Bool×Int×Int=>r.Trail.Base≤z.1∧z.1≤1099511627776∧z.2.2.1<9223372036854775808) (Tot.test (fun a=>?_) fun a=>.ret ⟨by simp only;omega,hf2,hc⟩) fun z _ hz=>?_
 ·refine Tot.bind (ZkL _ (by have:=hr.sn;omega)) fun u _ hu=>Tot.bind (Q:=fun _=>True) (Tot.cond (fun _=>.ret trivial) fun _=>Tot.test (fun _=>.ret trivial) fun q=>Tot.grd b0 (Tot.get (by omega) fun _ _ _=>Tot.get (by omega) fun _ _ _=>Tot.cond (fun _=>.ret trivial) fun _=>Tot.grd b0 (Tot.get (by omega) fun _ _ _=>Tot.get (by omega) fun _ _ _=>.ret trivial))) fun b2 _ _=>.ret ⟨Int.le_refl _,hT.b1,hu⟩
 obtain⟨fr,br2,cn2,sm2⟩:=z
 obtain⟨z1,z2,z3⟩:=hz
 simp only at z1 z2 z3⊢
 rw[wi64 (by omega) (by omega)]
 have key:=loopT (fun n (s:Int×Bool×Int×Int×Bool×List Zab×List Int×List Int)=>Zbz FF r gs gk k m fs f x y n s.1 c s.2.1 s.2.2.1 s.2.2.2.1 last s.2.2.2.2.1 tot s.2.2.2.2.2.1 s.2.2.2.2.2.2.1 s.2.2.2.2.2.2.2 n9 n10 w)
  (fun s=>r.Trail.Base+1≤s.1∧s.1≤1099511627777∧(s.1≤r.Commit+1→NT (b+(s.1-r.Trail.Base-1).toNat) s.2.2.2.2.2.1 s.2.2.2.2.2.2.1 s.2.2.2.2.2.2.2)∧(r.Commit+1<s.1→NT b s.2.2.2.2.2.1 s.2.2.2.2.2.2.1 s.2.2.2.2.2.2.2)∧s.2.2.1<9223372036854775808) (fun s=>(r.Commit+1-s.1).toNat)
  (fun q=>∃br' cnt' sum' tb' l' n7' n8',q=(c,br',cnt',sum',last,tb',tot,l',n7',n8',n9,n10,w)∧NT (b+4096) l' n7' n8'∧cnt'<9223372036854775808) (by
   rintro n ⟨at_,br,cn,sm,tb,l,n7,n8⟩ ⟨g1,g1',g2,g3,g4⟩ kk;simp only at g1 g1' g2 g3 g4 kk⊢;simp only[Zbz]
   refine Tot.test (fun a=>?_) fun a=>.ret ⟨_,_,_,_,_,_,_,rfl,?_,g4⟩
   ·have hN:=g2 (by omega)
    rw[show IntKind.wrap IntKind.i64 (at_-r.Trail.Base)=at_-r.Trail.Base from wi64 (by omega) (by omega),wi64 (x:=at_-r.Trail.Base-1) (by omega) (by omega)]
    refine Tot.grd (by omega) (Tot.get (by omega) fun e _ he=>?_)
    have hd:=(hT.ent e he).2.2
    refine Tot.bind (Q:=fun z=>z<9223372036854775808) (Tot.cond (fun _=>.ret (wlt _)) fun _=>.ret g4) fun cn' _ hcn=>Tot.grd (by unfold LIM;omega) (Tot.bind (ZnL _ _ _ (by omega)) fun mo _ _=>Tot.bind (Zq8 at_ e c br gs gk last _ l n7 n8 n9 r _ _ n10 m tot k fs w f x y _ hN (by omega) (by omega) (by omega) hd) fun q _ hq=>?_)
    obtain⟨br',tb',l',n7',n8',rfl,hN'⟩:=hq
    rw[wi64 (x:=at_+1) (by omega) (by omega)]
    exact kk (at_+1,br',cn',mo.1,tb',l',n7',n8') ⟨by simp only;omega,by simp only;omega,fun _=>hN'.mono (by simp only;omega),fun _=>by simp only at*;omega,hcn⟩ (by simp only;omega)
   ·by_cases q:at_≤r.Commit+1
    ·exact(g2 q).mono (by omega)
    ·exact(g3 (by omega)).mono (by omega)) FF (fr+1,br2,cn2,sm2,tb,l,n7,n8) ⟨by simp only;omega,by simp only;omega,fun _=>h.mono (by simp only;omega),fun _=>h,z3⟩ (by simp only[FF];omega)
 refine Tot.bind key fun q _ hq=>?_
 obtain⟨br',cnt',sum',tb',l',n7',n8',rfl,hN,hc'⟩:=hq
 exact .ret ⟨_,_,_,_,_,_,_,rfl,hN,hc'⟩
def PK(l:List Zac):Prop:=l.length≤512∧∀p,p∈l→p.Body.length≤65536
theorem ZqB(p:Zac)(c:Int)(l:List Zac)(m:List (mesh_pair×Int))(h:PK l)(hp:p.Body.length≤65536):Tot (Zc6 FF p c l m) fun y=>(y.2.1=0∨y.2.1=3)∧PK y.2.2.2:=by
 unfold Zc6
 have h1:=h.1
 refine Tot.test (fun _=>.ret ⟨.inr rfl,h⟩) fun a=>Tot.grd (by unfold LIM;omega) (.ret ⟨.inl rfl,by simp;omega,fun q hq=>?_⟩)
 rcases List.mem_append.1 hq with e|e
 ·exact h.2 q e
 ·simp only[List.mem_singleton]at e;subst e;exact hp
theorem ZpL(fr to_:Int)(b:List UInt8)(c:Int)(l:List Zac)(m:List (mesh_pair×Int))(h:PK l):Tot (ZdC FF fr to_ b c l m) fun y=>PK y.2.2.2:=by
 unfold ZdC
 exact Tot.test (fun _=>.ret h) fun a=>Tot.bind (ZqB _ c l m h (by simp only;omega)) fun y _ hy=>.ret hy.2
theorem Zsa(out:List Zad)(m:List (mesh_pair×Int))(c:Int)(l:List Zac)(ho:out.length≤1000)(hm:∀x,x∈out→MB x)(h:PK l):Tot (ZaT FF out m FF 0 c l) fun y=>PK y.2:=by
 have:=loopT (fun n (s:Nat×Int×List Zac)=>ZaT FF out m n (s.1:Int) s.2.1 s.2.2) (fun s=>s.1≤out.length∧PK s.2.2) (fun s=>out.length-s.1) (fun y=>PK y.2) (by
  rintro n ⟨i,c,l⟩ ⟨h1,h2⟩ k;simp only at h1 h2 k⊢;simp only[ZaT]
  refine Tot.test (fun a=>?_) fun _=>.ret h2
  refine Tot.grd (by omega) (Tot.get (by simp;omega) fun x _ hx=>Tot.bind (ZqK x (hm x hx)) fun _ _ _=>Tot.bind (ZpL _ _ _ c l m h2) fun y _ hy=>?_)
  rw[w1 (by omega)]
  exact k (i+1,y.2.2.1,y.2.2.2) ⟨by simp only;omega,hy⟩ (by simp only;omega)) FF (0,c,l) ⟨Nat.zero_le _,h⟩ (by simp only[FF];omega)
 exact this
theorem Zrj(s:List Zag)(v:Zag)(hl:s.length≤3000000):Tot (ZaI FF s v) fun _=>True:=by
 unfold ZaI Zbl
 have:=loopT (fun n (i:Nat)=>ZaD FF s v n (i:Int)) (fun i=>i≤s.length) (fun i=>s.length-i) (fun _=>True) (by
  intro n i h1 k;simp only[ZaD]
  refine Tot.test (fun a=>?_) fun _=>.ret trivial
  refine Tot.grd (by omega) (Tot.get (by simp;omega) fun x _ _=>Tot.cond (fun _=>.ret trivial) fun _=>?_)
  rw[w1 (by omega)]
  exact k (i+1) (by omega) (by omega)) FF 0 (Nat.zero_le _) (by simp only[FF];omega)
 refine Tot.bind (Q:=fun _=>True) (Tot.bind (Q:=fun _=>True) this fun o _ _=>?_) fun _ _ _=>.ret trivial
 rcases o with r|r
 ·exact .ret trivial
 ·exact .ret trivial
theorem ZlJ(keep torn:Int)(rf:Zae)(a b c:Int)(k:Zae)(fs:Fs)(l:List Zaa)(f:List UInt8)(x y:Int)(hD:DI c fs)(hW:WI fs l):
 Tot (Zb2 FF keep torn rf a b c k fs l f x y) fun q=>DI q.2.2.2.1 q.2.2.2.2:=by
 unfold Zb2
 exact Tot.bind (Zqn keep torn c fs l hD hW) fun q _ hq=>.ret hq
theorem ZjM(rf:Zae)(a b c:Int)(k:Zae)(fs:Fs)(l:List Zaa)(f:List UInt8)(x y:Int)(hD:DI c fs)(hW:WI fs l):
 Tot (ZbH FF rf a b c k fs l f x y) fun q=>q.1=3∧DI q.2.2.2.2.1 q.2.2.2.2.2:=by
 unfold ZbH
 exact Tot.bind (ZlJ 0 0 rf a b c k fs l f x y hD hW) fun q _ hq=>.ret ⟨rfl,hq⟩
section
variable {κ ν:Type}[DecidableEq κ]
theorem Zj8{q:κ}{x:ν}:∀{l:List (κ×ν)},mget q l=some x→(q,x)∈l
 | [],h=>by cases h
 |e::r,h=>by
  simp only[mget]at h
  by_cases k:q=e.1
  ·rw[if_pos k]at h;cases h;subst k;exact List.mem_cons_self ..
  ·rw[if_neg k]at h;exact List.mem_cons_of_mem _ (Zj8 h)
theorem ZgI{q:κ}{x:ν}{e:κ×ν}:∀{l:List (κ×ν)},e∈mput q x l→e=(q,x)∨e∈l
 | [],h=>by simp[mput]at h;exact .inl h
 |d::r,h=>by
  simp only[mput]at h
  by_cases k:q=d.1
  ·rw[if_pos k]at h
   rcases List.mem_cons.1 h with h|h
   ·exact .inl h
   ·exact .inr (List.mem_cons_of_mem _ h)
  ·rw[if_neg k]at h
   rcases List.mem_cons.1 h with h|h
   ·exact .inr (by rw[h];exact List.mem_cons_self ..)
   ·rcases ZgI h with h|h
    ·exact .inl h
    ·exact .inr (List.mem_cons_of_mem _ h)
theorem Zf2{q:κ}{x:ν}:∀{l:List (κ×ν)},mget q l=some x→mput q x l=l
 | [],h=>by cases h
 |e::r,h=>by
  simp only[mget]at h;simp only[mput]
  by_cases k:q=e.1
  ·rw[if_pos k]at h;cases h;rw[if_pos k,k]
  ·rw[if_neg k]at h;rw[if_neg k,Zf2 h]
theorem Zj5(q:κ)(x:ν):∀(l:List (κ×ν)),(mput q x l).length≤l.length+1
 | []=>by simp[mput]
 |e::r=>by
  have:=Zj5 q x r
  simp only[mput];split<;>simp only[List.length_cons]<;>omega
theorem Zml(q:κ):∀(l:List (κ×ν)),(mdel q l).length≤l.length
 | []=>by simp[mdel]
 |e::r=>by
  have:=Zml q r
  simp only[mdel];split<;>simp only[List.length_cons]<;>omega
end
def NdK(conf:List Int):group_node→Prop
 |.inl d=>DI d.total d.files∧WI d.files d.waits
 |.inr u=>WK u.file u.last u.recs u.total u.files u.waits∧KK u.kept∧RK u.raft∧u.raft.Conf=conf∧u.count<9223372036854775808
structure GI(conf:List Int)(b:Nat)(c:List Int)(gs:List (Int×group_node))(l:List Zab)(n7 n8:List Int)(n9:List Zag)(n10:List Zac):Prop where
 cc:c=conf
 nd:∀e,e∈gs→e.1∈conf∧NdK conf e.2
 nt:NT b l n7 n8
 ld:n9.length≤b
 pk:PK n10
section
variable {conf:List Int}{b:Nat}{c:List Int}{gs:List (Int×group_node)}{l:List Zab}{n7 n8:List Int}{n9:List Zag}{n10:List Zac}
theorem GI.mono{b':Nat}(h:GI conf b c gs l n7 n8 n9 n10)(hb:b≤b'):GI conf b' c gs l n7 n8 n9 n10:=⟨h.cc,h.nd,h.nt.mono hb,Nat.le_trans h.ld hb,h.pk⟩
theorem GI.put(h:GI conf b c gs l n7 n8 n9 n10){k:Int}{x:group_node}(hk:Option.isSome (mget k gs)=true)(hx:NdK conf x):GI conf b c (mput k x gs) l n7 n8 n9 n10:=by
 refine⟨h.cc,fun e he=>?_,h.nt,h.ld,h.pk⟩
 rcases ZgI he with rfl|he
 ·obtain⟨v,hv⟩:=Option.isSome_iff_exists.1 hk
  exact⟨(h.nd _ (Zj8 hv)).1,hx⟩
 ·exact h.nd e he
theorem GI.get(h:GI conf b c gs l n7 n8 n9 n10){k:Int}{x:group_node}(hk:mget k gs=some x):k∈conf∧NdK conf x:=h.nd _ (Zj8 hk)
end
abbrev ActT:=Int×(List Int)×Bool×(List (Int×group_node))×Int×Bool×(List Zab)×(List Int)×(List Int)×(List Zag)×(List Zac)
abbrev StpT:=Int×(List Int)×Bool×(List (Int×group_node))×Int×Bool×Zae×(List UInt8)×Int×Int×(List Zab)×(List Int)×(List Int)×(List Zag)×(List Zac)
def GIA(conf:List Int)(b:Nat)(y:ActT):Prop:=GI conf b y.2.1 y.2.2.2.1 y.2.2.2.2.2.2.1 y.2.2.2.2.2.2.2.1 y.2.2.2.2.2.2.2.2.1 y.2.2.2.2.2.2.2.2.2.1 y.2.2.2.2.2.2.2.2.2.2
def GIS(conf:List Int)(b:Nat)(y:StpT):Prop:=GI conf b y.2.1 y.2.2.2.1 y.2.2.2.2.2.2.2.2.2.2.1 y.2.2.2.2.2.2.2.2.2.2.2.1 y.2.2.2.2.2.2.2.2.2.2.2.2.1 y.2.2.2.2.2.2.2.2.2.2.2.2.2.1 y.2.2.2.2.2.2.2.2.2.2.2.2.2.2
theorem dn(conf:List Int){t:Int}{fs:Fs}(h:DI t fs)(r:Zae)(a b:Int):NdK conf (.inl (group_nodeD.mk fs [] t r a b)):=⟨h,WI.nil fs⟩
theorem Zll(conf:List Int)(hcf:CF conf)(id:Int)(r_:Zae)(out:List Zad)(a:Zau)(c:List Int)(br:Bool)(gs:List (Int×group_node))(gk last:Int)(tb:Bool)(l:List Zab)(n7 n8:List Int)(n9:List Zag)(rf:Zae)(cnt sum:Int)(n10:List Zac)(m:List (mesh_pair×Int))(tot:Int)(k:Zae)(fs:Fs)(w:List Zaa)(f:List UInt8)(x y:Int)
 (b:Nat) (hb:b≤2000000) (hG:GI conf b c gs l n7 n8 n9 n10) (hid:id=gk) (hk:Option.isSome (mget gk gs)=true) (hN:NdK conf (.inr (group_nodeU.mk fs w tot f x y k rf cnt sum))) (hs:Small r_) (hrc:r_.Conf=conf) (ho:out.length≤1000) (hm:∀x,x∈out→MB x):
 Tot (Zbg FF id r_ out a c br gs gk last tb l n7 n8 n9 rf cnt sum n10 m tot k fs w f x y) fun o=>(∀z,o=.inl z→(z.1=0∨z.1=3)∧GIS conf (b+4097) z)∧∀z,o=.inr z→(z.1=0∨z.1=3)∧GIA conf (b+4097) z:=by
 obtain⟨hw,hkk,hrk,hrf,hct⟩:=hN
 simp only at hw hkk hrk hrf hct
 have hle:b≤b+4097:=Nat.le_add_right ..
 unfold Zbg
 rw[show(decide (id=gk)&&Option.isSome (mget gk gs))=true from by rw[hk,decide_eq_true hid];rfl,cond_true]
 refine Tot.bind (ZlU r_ k f x y tot fs w hw hkk hs (by rw[hrc];exact hcf.lt)) fun y0 _ h0=>?_
 obtain⟨e0,k0,f0,x0,y0,t0,fs0,w0⟩:=y0
 obtain⟨hw0,hk0,hr0⟩:=h0
 simp only at hw0 hk0 hr0⊢;simp only[hk,cond_true]
 refine Tot.cond (fun _=>Tot.bind (ZjM rf cnt sum t0 k0 fs0 w0 f0 x0 y0 hw0.di hw0.wi) fun q _ hq=>.ret ⟨fun z e=>by cases e;exact⟨.inr hq.1,(hG.mono hle).put hk (dn conf hq.2 ..)⟩,fun z e=>by cases e⟩) fun e=>?_
 have hR:=hr0 (by simpa using e)
 refine Tot.cond (fun _=>Tot.bind (ZlJ a.Keep a.Torn rf cnt sum t0 k0 fs0 w0 f0 x0 y0 hw0.di hw0.wi) fun q _ hq=>.ret ⟨fun z e=>by cases e;exact⟨.inl rfl,(hG.mono hle).put hk (dn conf hq ..)⟩,fun z e=>by cases e⟩) fun _=>?_
 obtain⟨hse,hsw⟩:=Znv k0 f0 x0 y0 t0 fs0 w0 hw0
 refine Tot.of hse (Tot.bind (Zsa out m last n10 ho hm hG.pk) fun q _ hq=>?_)
 obtain⟨last1,p1⟩:=q
 simp only at hq⊢
 have hc0:=hrk.ok.cm0;have hc1:=hrk.ok.cm1;have hb0:=hrk.ok.tr.b0;have hbl:=hrk.ok.tr.last
 refine Tot.bind (Zo2 rf.Commit c br r_ cnt sum gs gk last1 tb l n7 n8 n9 t0 k0 p1 m fs0 (fgt f0 w0) f0 x0 y0 b hG.nt (by omega) hR.ok (by omega) (by omega) hct) fun q _ hq2=>?_
 obtain⟨br',cnt',sum',tb',l',n7',n8',rfl,hN,hc'⟩:=hq2
 simp only
 have hld:=hG.ld
 refine Tot.bind (Q:=fun _=>True) (Tot.cond (fun _=>Tot.bind (Zrj n9 _ (by omega)) fun _ _ _=>.ret trivial) fun _=>.ret trivial) fun t _ _=>Tot.bind (Q:=fun n9':List Zag=>n9'.length≤b+1) (Tot.cond (fun _=>Tot.grd (by unfold LIM;omega) (.ret (by simp;omega))) fun _=>.ret (by omega)) fun n9' _ h9=>?_
 refine Tot.bind (Q:=fun q:Bool×Int×Fs×List UInt8×Int×Int×List Zaa=>(q.1=false→WK q.2.2.2.1 q.2.2.2.2.1 q.2.2.2.2.2.1 q.2.1 q.2.2.1 q.2.2.2.2.2.2)∧DI q.2.1 q.2.2.1∧WI q.2.2.1 q.2.2.2.2.2.2) ?_ fun q _ hq3=>?_
 ·unfold Zdp ZeW
  simp only[Option.bind_some]
  refine Tot.test (fun _=>Tot.bind (Zl2 k0 f0 x0 y0 t0 fs0 (fgt f0 w0) hsw hk0) fun p _ hp=>.ret ⟨fun e=>hp.1 (by simpa using e),hp.2⟩) fun _=>.ret ⟨fun _=>hsw,hsw.di,hsw.wi⟩
 obtain⟨tt,t2,fs2,f2,x2,y2,w2⟩:=q
 obtain⟨q1,q2,q3⟩:=hq3
 simp only at q1 q2 q3⊢
 have hG':GI conf (b+4097) c gs l' n7' n8' n9' p1:=⟨hG.cc,hG.nd,hN.mono (by omega),by omega,hq⟩
 refine Tot.cond (fun _=>Tot.bind (ZjM r_ cnt' sum' t2 k0 fs2 w2 f2 x2 y2 q2 q3) fun q _ hq=>.ret ⟨fun z e=>by cases e;exact⟨.inr hq.1,hG'.put hk (dn conf hq.2 ..)⟩,fun z e=>by cases e⟩) fun e=>.ret ⟨(fun z e=>by cases e),fun z e2=>?_⟩
 cases e2;exact⟨.inl rfl,hG'.put hk ⟨q1 e,hk0,hR,hrc,hc'⟩⟩
section
variable (conf:List Int)(a:Zau)(c:List Int)(br:Bool)(gs:List (Int×group_node))(last:Int)(tb:Bool)(l:List Zab)(n7 n8:List Int)(n9:List Zag)(n10:List Zac)(m:List (mesh_pair×Int))(b:Nat)
theorem Zfg(id:Int):(∃e,e≠0∧Zax FF id c br gs last tb l n7 n8 n9 n10 m=some (.inl (e,gs)))∨
 ∃u:group_nodeU,mget id gs=some (.inr u)∧Zax FF id c br gs last tb l n7 n8 n9 n10 m=some (.inr (0,gs,id,u.raft,u.count,u.sum,u.total,u.kept,u.files,u.waits,u.file,u.last,u.recs)):=by
 unfold Zax
 cases h:mget id gs with
 |none=>exact .inl ⟨1,by decide,rfl⟩
 |some x=>
  cases x with
  |inl d=>
   refine .inl ⟨4,by decide,?_⟩
   simp only[Option.elim_some,Sum.elim_inl,Option.isSome_some,cond_true];rw[Zf2 h]
  |inr u=>exact .inr ⟨u,rfl,rfl⟩
def AR(y:ActT):Prop:=GIA conf (b+4097) y∧(y.1=0∨y.1=3∨y.1=21∨y.2=(c,br,gs,last,tb,l,n7,n8,n9,n10))
variable {conf a c br gs last tb l n7 n8 n9 n10 m b}
theorem Res.small{h:Zah}{v n k:List Int}{out:List Zad}(q:Res conf h v n k out)(h7:conf.length≤7)(x y:Int):Small (Zae.mk h.Id h.Conf h.Term h.Vote h.Role h.Leader h.Trail h.Snap h.Commit x y v n k):=
 ⟨by show h.Conf.length≤_;rw[q.cf];omega,by show h.Trail.Entries.length≤_;have:=q.tl;omega,by show v.length≤_;have:=q.vl;omega,by show n.length≤_;have:=q.nl;omega,by show k.length≤_;have:=q.ml;omega⟩
theorem Zo0(hcf:CF conf)(hb:b≤2000000)(hG:GI conf b c gs l n7 n8 n9 n10):Tot (ZcV FF a c br gs last tb l n7 n8 n9 n10 m) (AR conf c br gs last tb l n7 n8 n9 n10 b):=by
 have hG':=hG.mono (Nat.le_add_right b 4097)
 unfold ZcV
 rcases Zfg c br gs last tb l n7 n8 n9 n10 m a.Node with ⟨e,he,h⟩|⟨u,hu,h⟩
 ·refine Tot.of h ?_
  simp only[Sum.elim_inl]
  exact Tot.cond (fun _=>.ret ⟨hG',.inr (.inr (.inr rfl))⟩) fun q=>absurd (by simpa using q) he
 ·refine Tot.of h ?_
  simp only[Sum.elim_inr,show((0:Int) != 0)=false from rfl,cond_false]
  have hN:=(hG.get hu).2
  refine Tot.bind (ZqP u.raft hN.2.2.1 a.Draw) fun y _ hy=>?_
  obtain⟨h,v,n,k,out,rfl,hr⟩:=hy
  rw[hN.2.2.2.1]at hr
  refine Tot.bind (Zll conf hcf a.Node _ _ a c br gs a.Node last tb l n7 n8 n9 u.raft u.count u.sum n10 m u.total u.kept u.files u.waits u.file u.last u.recs b hb hG rfl (by rw[hu];rfl) hN (hr.small hcf.ok.n7 _ _) hr.cf (by have:=hr.ol;show out.length≤_;omega) hr.om) fun o _ ho=>?_
  rcases o with z|z
  ·have:=ho.1 z rfl
   exact .ret ⟨this.2,this.1.imp id .inl⟩
  ·have:=ho.2 z rfl
   exact .ret ⟨this.2,this.1.imp id .inl⟩
theorem Zj9(id:Int)(x:Int)(hl:n10.length≤1000000):Tot (Zcj FF id x n10 m) fun i=> -1≤i∧i<n10.length:=by
 unfold Zcj ZaR
 have:=loopT (fun n (i:Nat)=>Zar FF n10 id n (i:Int)) (fun i=>i≤n10.length) (fun i=>n10.length-i) (fun o=>(∀r,o=.inl r→ -1≤r∧r<n10.length)∧∀u:Unit,o=.inr u→True) (by
  intro n i h1 k;simp only[Zar]
  refine Tot.test (fun q=>?_) fun _=>.ret ⟨(fun r e=>by cases e),fun _ _=>trivial⟩
  refine Tot.grd (by omega) (Tot.get (by simp;omega) fun x _ _=>Tot.bind (Q:=fun _=>True) (by unfold ZdR;exact .ret trivial) fun t _ _=>Tot.cond (fun _=>.ret ⟨fun r e=>by cases e;omega,fun _ _=>trivial⟩) fun _=>?_)
  rw[w1 (by omega)]
  exact k (i+1) (by omega) (by omega)) FF 0 (Nat.zero_le _) (by simp only[FF];omega)
 refine Tot.bind (Tot.elim this (fun r h=>.ret h) fun _ _=>.ret ⟨by decide,by omega⟩) fun i _ h=>.ret h
theorem Zmi(i x:Int)(h0:0≤i)(h1:i<n10.length)(h:PK n10):Tot (ZcK FF i x n10 m) fun y=>y.1.Body.length≤65536∧PK y.2.2:=by
 have hl:=h.1
 unfold ZcK
 refine Tot.grd h0 (Tot.get (by omega) fun p _ hp=>Tot.get (by omega) fun p2 _ hp2=>?_)
 unfold ZaS
 rw[wi64 (by omega) (by omega)]
 refine Tot.bind (Q:=PK) (Tot.grd ⟨h0,rfl,by omega⟩ (.ret ⟨by simp;omega,fun q hq=>?_⟩)) fun y _ hy=>.ret ⟨h.2 _ hp2,hy⟩
 rcases List.mem_append.1 hq with e|e
 ·exact h.2 q (List.mem_of_mem_take e)
 ·exact h.2 q (List.mem_of_mem_drop e)
theorem Zop(id x:Int)(h:PK n10):Tot (Zcx FF id x n10 m) fun y=>PK y.2.2.2∧(y.2.1=false→y.2.2=(x,n10))∧y.1.Body.length≤65536:=by
 have hl:=h.1
 unfold Zcx
 refine Tot.bind (Zj9 id x (by omega)) fun i _ hi=>?_
 refine Tot.bind (Q:=fun t=>t=false→0≤i) (Tot.test (fun _=>.ret (by simp)) fun q=>Tot.grd (by omega) (Tot.get (by omega) fun _ _ _=>Tot.get (by omega) fun p _ _=>Tot.bind (Q:=fun _=>True) (by unfold ZeH ZhN;exact .ret trivial) fun _ _ _=>.ret fun _=>by omega)) fun t _ ht=>Tot.cond (fun _=>.ret ⟨h,fun _=>rfl,by simp⟩) fun e=>?_
 exact Tot.bind (Zmi i x (ht e) hi.2 h) fun y _ hy=>.ret ⟨hy.2,(fun q=>by cases q),hy.1⟩
theorem GI.pkt{p:List Zac}(h:GI conf b c gs l n7 n8 n9 n10)(hp:PK p):GI conf b c gs l n7 n8 n9 p:=⟨h.cc,h.nd,h.nt,h.ld,hp⟩
theorem Zru(b:List UInt8)(h:b.length≤1000000):Tot (Zfl FF b) fun y=>0≤y.1∧y.1≤255:=by
 unfold Zfl
 have hb:∀c:UInt8,c.toNat<256:=fun c=>c.toNat_lt
 have:=loopT (fun n (s:Nat×Int)=>Zc4 FF b n (s.1:Int) s.2) (fun s=>s.1≤b.length) (fun s=>b.length-s.1) (fun o=>(∀r,o=.inl r→0≤r.1∧r.1≤255)∧∀u:Unit,o=.inr u→True) (by
  rintro n ⟨i,t⟩ g1 k;simp only at g1 k⊢;simp only[Zc4]
  refine Tot.test (fun a=>?_) fun _=>.ret ⟨(fun r e=>by cases e),fun _ _=>trivial⟩
  refine Tot.grd (by omega) (Tot.get (by simp;omega) fun c _ _=>Tot.bind (Q:=fun _=>True) (Tot.cond (fun _=>.ret trivial) fun _=>.ret trivial) fun t' _ _=>Tot.cond (fun _=>Tot.grd (by omega) (Tot.get (by simp;omega) fun d _ _=>?_)) fun _=>?_)
  ·have hd:=hb d
   rw[wi64 (x:=((d.toNat:Nat):Int)) (by omega) (by omega)]
   refine Tot.test (fun p=>?_) fun _=>.ret ⟨(fun r e=>by cases e;exact⟨by simp only;omega,by simp only;omega⟩),fun _ _=>trivial⟩
   rw[wi64 (by omega) (by omega)]
   exact Tot.grd (by omega) (Tot.get (by omega) fun _ _ _=>.ret ⟨(fun r e=>by cases e;exact⟨by simp only;omega,by simp only;omega⟩),fun _ _=>trivial⟩)
  ·rw[w1 (by omega)]
   exact k (i+1,t') (by simp only;omega) (by simp only;omega)) FF (0,9) (Nat.zero_le _) (by simp only[FF];omega)
 exact Tot.elim this (fun r hr=>.ret hr) fun _ _=>.ret ⟨by decide,by decide⟩
theorem Zoc(body:List UInt8)(h:body.length≤65536):Tot (ZfH FF body) fun _=>True:=by
 unfold ZfH
 refine Tot.bind (Zru body (by omega)) fun y _ hy=>Tot.cond (fun _=>.ret trivial) fun _=>?_
 have hk:=loopT (fun n (s:Nat×List Int)=>Zdw FF y n (s.1:Int) s.2) (fun s=>(s.1:Int)≤y.1∧s.2.length=9+2*s.1∧∀k,k∈s.2→k=1∨k=3) (fun s=>(y.1-s.1).toNat) (fun l=>l.length=9+2*y.1.toNat∧∀k,k∈l→k=1∨k=3) (by
  rintro n ⟨i,l⟩ ⟨g1,g2,g3⟩ k;simp only at g1 g2 g3 k⊢;simp only[Zdw]
  refine Tot.test (fun a=>Tot.grd (by unfold LIM;omega) ?_) fun _=>.ret ⟨by omega,g3⟩
  rw[w1 (by omega)]
  refine k (i+1,_) ⟨by simp only;omega,by simp;omega,fun q hq=>?_⟩ (by simp only;omega)
  rcases List.mem_append.1 hq with e|e
  ·exact g3 q e
  ·simpa using e) FF (0,[1,1,1,1,1,1,1,1,1]) ⟨by omega,by simp,by simp⟩ (by simp only[FF];omega)
 refine Tot.bind hk fun l _ hl=>?_
 have hl1:=hl.1
 refine Tot.grd (by unfold LIM;omega) (Tot.grd (by unfold LIM;omega) ?_)
 refine Tot.bind (Zic (l++[3]) (byI body) (by simp;omega) (fun k hk=>by
  rcases List.mem_append.1 hk with e|e
  ·exact hl.2 k e
  ·exact .inr (by simpa using e)) (Znj body) (by rw[Ziw];omega)) fun z _ hz=>?_
 have hlen:z.1=0→z.2.length=10+2*y.1.toNat:=fun e=>by
  have:=Zit (hz.1 e).1
  rw[this];simp;omega
 refine Tot.bind (Q:=fun t=>t=false→z.1=0) (Tot.cond (fun _=>.ret (by simp)) fun e=>?_) fun t _ ht=>Tot.cond (fun _=>.ret trivial) fun e=>?_
 ·have e0:z.1=0:=by simpa using e
  have:=hlen e0
  exact Tot.get (by simp;omega) fun _ _ _=>.ret fun _=>e0
 ·have hL:=hlen (ht e)
  unfold ZfV
  refine Tot.bind (Q:=fun _=>True) ?_ fun _ _ _=>.ret trivial
  refine Tot.get (by simp;omega) fun _ _ _=>Tot.get (by simp;omega) fun _ _ _=>Tot.get (by simp;omega) fun _ _ _=>Tot.get (by simp;omega) fun _ _ _=>Tot.get (by simp;omega) fun _ _ _=>Tot.get (by simp;omega) fun _ _ _=>Tot.get (by simp;omega) fun _ _ _=>Tot.get (by simp;omega) fun _ _ _=>?_
  rw[List.length_map,wi64 (by omega) (by omega)]
  refine Tot.grd (by omega) (Tot.get (by omega) fun _ _ _=>Tot.bind (Q:=fun _=>True) ?_ fun _ _ _=>.ret trivial)
  have:=loopT (fun n (s:Nat×List Zab)=>Zc3 FF z.2 y.1 n (s.1:Int) s.2) (fun s=>(s.1:Int)≤y.1∧s.2.length=s.1) (fun s=>(y.1-s.1).toNat) (fun _=>True) (by
   rintro n ⟨i,l⟩ ⟨g1,g2⟩ k;simp only at g1 g2 k⊢;simp only[Zc3]
   refine Tot.test (fun a=>?_) fun _=>.ret trivial
   rw[wi64 (x:=2*(i:Int)) (by omega) (by omega),wi64 (x:=9+2*(i:Int)) (by omega) (by omega),wi64 (x:=10+2*(i:Int)) (by omega) (by omega)]
   refine Tot.grd (by omega) (Tot.get (by omega) fun _ _ _=>Tot.grd (by omega) (Tot.get (by omega) fun _ _ _=>Tot.grd (by unfold LIM;omega) ?_))
   rw[w1 (by omega)]
   exact k (i+1,_) ⟨by simp only;omega,by simp;omega⟩ (by simp only;omega)) FF (0,[]) ⟨by omega,rfl⟩ (by simp only[FF];omega)
  exact this
theorem ZmG(hcf:CF conf)(hb:b≤2000000)(hG:GI conf b c gs l n7 n8 n9 n10):Tot (Zcb FF a c br gs last tb l n7 n8 n9 n10 m) (AR conf c br gs last tb l n7 n8 n9 n10 b):=by
 have hG':=hG.mono (Nat.le_add_right b 4097)
 unfold Zcb
 refine Tot.bind (Zop a.Id last hG.pk) fun y _ hy=>?_
 obtain⟨p,ok,last2,pk⟩:=y
 obtain⟨h1,h2,h3⟩:=hy
 simp only at h1 h2 h3⊢
 refine Tot.cond (fun e=>.ret ⟨hG'.pkt h1,.inr (.inr (.inr ?_))⟩) fun e=>?_
 ·have:=h2 (by simpa using e)
  cases this;rfl
 refine Tot.bind (Zoc p.Body h3) fun u _ _=>?_
 rcases Zfg c br gs last2 tb l n7 n8 n9 pk m p.To with ⟨e,he,h⟩|⟨u2,hu,h⟩
 ·refine Tot.of h ?_
  simp only[Sum.elim_inl]
  refine Tot.bind (Q:=fun t=>t=true) (Tot.cond (fun _=>.ret rfl) fun _=>.ret (by simpa using he)) fun t _ ht=>?_
  subst ht;exact .ret ⟨hG'.pkt h1,.inl rfl⟩
 ·refine Tot.of h ?_
  simp only[Sum.elim_inr]
  have hN:=(hG.get hu).2
  refine Tot.bind (Q:=fun _=>True) (Tot.cond (fun _=>.ret trivial) fun _=>.ret trivial) fun t _ _=>Tot.cond (fun _=>?_) fun _=>?_
  ·rw[hu]
   exact .ret ⟨(hG'.pkt h1).put (by rw[hu];rfl) hN,.inl rfl⟩
  ·refine Tot.bind (Zos u2.raft hN.2.2.1 u.1) fun y _ hy=>?_
   obtain⟨h,v,n,k,out,rfl,hr⟩:=hy
   rw[hN.2.2.2.1]at hr
   refine Tot.bind (Zll conf hcf p.To _ _ a c br gs p.To last2 tb l n7 n8 n9 u2.raft u2.count u2.sum pk m u2.total u2.kept u2.files u2.waits u2.file u2.last u2.recs b hb (hG.pkt h1) rfl (by rw[hu];rfl) hN (hr.small hcf.ok.n7 _ _) hr.cf (by have:=hr.ol;show out.length≤_;omega) hr.om) fun o _ ho=>?_
   rcases o with z|z
   ·have:=ho.1 z rfl
    exact .ret ⟨this.2,this.1.imp id .inl⟩
   ·have:=ho.2 z rfl
    exact .ret ⟨this.2,this.1.imp id .inl⟩
theorem Zqj(h:PK n10):Tot (ZcY FF a c br gs last tb l n7 n8 n9 n10 m) fun y=>PK y.2.2∧(y.1=0∨y.2=(last,n10)):=by
 have hl:=h.1
 unfold ZcY ZeJ
 refine Tot.bind (Q:=fun y:Bool×Int×List Zac=>PK y.2.2∧(y.1=false→y.2=(last,n10))) ?_ fun y _ hy=>Tot.cond (fun e=>.ret ⟨hy.1,.inr (hy.2 (by simpa using e))⟩) fun _=>.ret ⟨hy.1,.inl rfl⟩
 exact Tot.bind (Zj9 a.Id last (by omega)) fun i _ hi=>Tot.test (fun _=>.ret ⟨h,fun _=>rfl⟩) fun q=>Tot.bind (Zmi i last (by omega) hi.2 h) fun y _ hy=>.ret ⟨hy.2,fun e=>by cases e⟩
theorem Znd(h:PK n10):Tot (Zct FF a c br gs last tb l n7 n8 n9 n10 m) fun y=>PK y.2.2∧(y.1=0∨y.1=3∨y.2=(last,n10)):=by
 have hl:=h.1
 unfold Zct ZdT
 refine Tot.bind (Q:=fun y:Int×Int×Int×List Zac=>PK y.2.2.2∧(y.2.1=0∨y.2.1=3∨y.2.2=(last,n10))) ?_ fun y _ hy=>.ret hy
 exact Tot.bind (Zj9 a.Id last (by omega)) fun i _ hi=>Tot.test (fun _=>.ret ⟨h,.inr (.inr rfl)⟩) fun q=>Tot.grd (by omega) (Tot.get (by omega) fun _ _ _=>Tot.get (by omega) fun p _ hp=>Tot.bind (ZqB p last n10 m h (h.2 p hp)) fun y _ hy=>.ret ⟨hy.2,hy.1.imp id .inl⟩)
theorem Zl7(hcf:CF conf)(hb:b≤2000000)(hG:GI conf b c gs l n7 n8 n9 n10):Tot (Zca FF a c br gs last tb l n7 n8 n9 n10 m) (AR conf c br gs last tb l n7 n8 n9 n10 b):=by
 have hG':=hG.mono (Nat.le_add_right b 4097)
 unfold Zca
 rcases Zfg c br gs last tb l n7 n8 n9 n10 m a.Node with ⟨e,he,h⟩|⟨u,hu,h⟩
 ·refine Tot.of h ?_
  simp only[Sum.elim_inl]
  exact Tot.cond (fun _=>.ret ⟨hG',.inr (.inr (.inr rfl))⟩) fun q=>absurd (by simpa using q) he
 ·refine Tot.of h ?_
  simp only[Sum.elim_inr,show((0:Int) != 0)=false from rfl,cond_false]
  have hN:=(hG.get hu).2
  refine Tot.bind (ZmY u.raft hN.2.2.1 a.Data) fun y _ hy=>?_
  obtain⟨h,v,n,k,out,i,e,rfl,hr⟩:=hy
  rw[hN.2.2.2.1]at hr;simp only
  refine Tot.cond (fun _=>?_) fun _=>?_
  ·simp only[hu,Option.isSome_some,cond_true]
   rw[Zf2 hu];exact .ret ⟨hG',.inr (.inr (.inr rfl))⟩
  ·refine Tot.bind (Zll conf hcf a.Node _ _ a c br gs a.Node last tb l n7 n8 n9 u.raft u.count u.sum n10 m u.total u.kept u.files u.waits u.file u.last u.recs b hb hG rfl (by rw[hu];rfl) hN (hr.small hcf.ok.n7 _ _) hr.cf (by have:=hr.ol;omega) hr.om) fun o _ ho=>?_
   rcases o with z|z
   ·have:=ho.1 z rfl
    exact .ret ⟨this.2,this.1.imp id .inl⟩
   ·have:=ho.2 z rfl
    exact .ret ⟨this.2,this.1.imp id .inl⟩
theorem ZoG(hG:GI conf b c gs l n7 n8 n9 n10):Tot (Zcz FF a c br gs last tb l n7 n8 n9 n10 m) fun y=>GI conf b c y.2 l n7 n8 n9 n10∧(y.1=0∨y.2=gs):=by
 unfold Zcz
 rcases Zfg c br gs last tb l n7 n8 n9 n10 m a.Node with ⟨e,he,h⟩|⟨u,hu,h⟩
 ·refine Tot.of h ?_
  simp only[Sum.elim_inl]
  refine Tot.bind (Q:=fun _=>True) (Tot.cond (fun q=>absurd (by simpa using q) he) fun _=>.ret trivial) fun _ _ _=>.ret ⟨hG,.inr rfl⟩
 ·refine Tot.of h ?_
  simp only[Sum.elim_inr,show((0:Int)==0)=true from rfl,cond_true]
  have hN:=(hG.get hu).2
  refine Tot.bind (ZlJ a.Keep a.Torn u.raft u.count u.sum u.total u.kept u.files u.waits u.file u.last u.recs hN.1.di hN.1.wi) fun q _ hq=>?_
  rw[hu]
  exact .ret ⟨hG.put (by rw[hu];rfl) (dn conf hq ..),.inl rfl⟩
theorem Zl0(hcf:CF conf)(id:Int)(hid:id∈conf)(hk:Option.isSome (mget id gs)=true)(rf:Zae)(x y t:Int)(fs:Fs)(w:List Zaa)(hD:DI t fs)(hW:WI fs w)(lst:Int)(tb2:Bool):
 Tot (ZaX FF id conf br rf x y gs id lst tb2 l n7 n8 n9 t n10 m fs w) fun y=>(∃x,NdK conf x∧y.2=mput id x gs)∧(y.1=0∨y.1=3∨y.1=21):=by
 unfold ZaX
 refine Tot.bind (Zo9 id conf t fs w hcf hid hD hW) fun o _ ho=>?_
 simp only[hk,cond_true]
 rcases o with y|y
 ·obtain⟨h1,h2⟩:=ho.1 y rfl
  simp only[Sum.elim_inl]
  refine Tot.cond (fun _=>.ret ⟨⟨_,?_,rfl⟩,.inr h1⟩) fun e=>absurd (show y.2.1=0 by simpa using e) (by rcases h1 with q|q<;>rw[q]<;>decide)
  exact⟨h2.1,h2.2⟩
 ·obtain⟨z,rfl,h1,h2,h3,h4,h5,h6⟩:=ho.2 y rfl
  simp only[Sum.elim_inr,h1,show((0:Int) != 0)=false from rfl,cond_false]
  refine Tot.bind (ZkL _ (by have:=h4.ok.sn;omega)) fun q _ hq=>.ret ⟨⟨_,?_,rfl⟩,.inl rfl⟩
  exact⟨h2,h3,h4,h5,hq⟩
theorem Zl3(hcf:CF conf)(hG:GI conf b c gs l n7 n8 n9 n10):Tot (Zb9 FF a c br gs last tb l n7 n8 n9 n10 m) fun y=>GI conf b c y.2 l n7 n8 n9 n10∧(y.1=0∨y.1=3∨y.1=21∨y.2=gs):=by
 unfold Zb9
 cases h:mget a.Node gs with
 |none=>exact .ret ⟨hG,.inr (.inr (.inr rfl))⟩
 |some x=>
  cases x with
  |inl d=>
   simp only[Option.elim_some,Sum.elim_inl]
   have hcc:=hG.cc
   rw[show ZaX FF a.Node c=ZaX FF a.Node conf by rw[hcc]]
   refine Tot.bind (Zl0 hcf a.Node (hG.get h).1 (by rw[h];rfl) d.raft d.count d.sum d.total d.files d.waits (hG.get h).2.1 (hG.get h).2.2 last tb) fun y _ hy=>?_
   obtain⟨⟨x,hx,e⟩,h2⟩:=hy
   exact .ret ⟨by simp only[e];exact hG.put (by rw[h];rfl) hx,h2.imp id fun q=>q.imp id .inl⟩
  |inr u=>
   simp only[Option.elim_some,Sum.elim_inr,Option.isSome_some,cond_true];rw[Zf2 h];exact .ret ⟨hG,.inr (.inr (.inr rfl))⟩
theorem Zpt(hcf:CF conf)(hG:GI conf b c gs l n7 n8 n9 n10):Tot (ZcW FF a c br gs last tb l n7 n8 n9 n10 m) fun y=>GI conf b c y.2 l n7 n8 n9 n10∧(y.1=0∨y.1=3∨y.2=gs):=by
 unfold ZcW
 rcases Zfg c br gs last tb l n7 n8 n9 n10 m a.Node with ⟨e,he,h⟩|⟨u,hu,h⟩
 ·refine Tot.of h ?_
  simp only[Sum.elim_inl]
  exact Tot.cond (fun _=>.ret ⟨hG,.inr (.inr rfl)⟩) fun q=>absurd (by simpa using q) he
 ·refine Tot.of h ?_
  simp only[Sum.elim_inr,show((0:Int) != 0)=false from rfl,cond_false]
  obtain⟨hw,hkk,hrk,hrf,hct⟩:=(hG.get hu).2
  have hp:∀{x:group_node},NdK conf x→GI conf b c (mput a.Node x gs) l n7 n8 n9 n10:=fun hx=>hG.put (by rw[hu];rfl) hx
  refine Tot.bind (ZqZ u.raft u.count u.sum u.total u.kept u.files u.waits u.file u.last u.recs hct) fun sn _ _=>Tot.bind (Zng u.raft hrk u.raft.Commit sn) fun y _ hy=>?_
  obtain⟨h,v,n,k,e,rfl,hr⟩:=hy
  rw[hrf]at hr;simp only[hu,Option.isSome_some,cond_true]
  refine Tot.bind (ZlU _ u.kept u.file u.last u.recs u.total u.files u.waits hw hkk (hr.small hcf.ok.n7 h.Left h.Wait) (by show∀x,x∈h.Conf→_;rw[hr.cf];exact hcf.lt)) fun y0 _ h0=>?_
  obtain⟨e0,k0,f0,x0,y0,t0,fs0,w0⟩:=y0
  obtain⟨hw0,hk0,hr0⟩:=h0
  simp only at hw0 hk0 hr0⊢
  refine Tot.cond (fun _=>Tot.bind (ZjM _ _ _ t0 k0 fs0 w0 f0 x0 y0 hw0.di hw0.wi) fun q _ hq=>.ret ⟨hp (dn conf hq.2 ..),.inr (.inl hq.1)⟩) fun e=>?_
  have hR:=hr0 (by simpa using e)
  obtain⟨hse,hsw⟩:=Znv k0 f0 x0 y0 t0 fs0 w0 hw0
  refine Tot.of hse (Tot.bind (Zl2 k0 f0 x0 y0 t0 fs0 (fgt f0 w0) hsw hk0) fun p _ hpk=>?_)
  refine Tot.cond (fun _=>Tot.bind (ZjM _ _ _ _ k0 _ _ _ _ _ hpk.2.1 hpk.2.2) fun q _ hq=>.ret ⟨hp (dn conf hq.2 ..),.inr (.inl hq.1)⟩) fun e2=>.ret ⟨hp ⟨hpk.1 (by simpa using e2),hk0,hR,hr.cf,hct⟩,.inl rfl⟩
abbrev DoT:=Int×(List Int)×Bool×(List (Int×group_node))×Int×Bool×(List (mesh_pair×Int))×(List Zab)×(List Int)×(List Int)×(List Zag)×(List Zac)
def GID(conf:List Int)(b:Nat)(y:DoT):Prop:=GI conf b y.2.1 y.2.2.2.1 y.2.2.2.2.2.2.2.1 y.2.2.2.2.2.2.2.2.1 y.2.2.2.2.2.2.2.2.2.1 y.2.2.2.2.2.2.2.2.2.2.1 y.2.2.2.2.2.2.2.2.2.2.2∧y.2.2.2.2.2.2.1.length≤b
theorem Ztg(hcf:CF conf)(hb:b≤2000000)(hG:GI conf b c gs l n7 n8 n9 n10)(hm:m.length≤b):Tot (ZaO FF a c br gs last tb l n7 n8 n9 n10 m) fun y=>GID conf (b+4097) y∧(y.1=0∨y.1=3∨y.1=21∨y.2=(c,br,gs,last,tb,m,l,n7,n8,n9,n10)):=by
 have hle:=Nat.le_add_right b 4097
 have hG':=hG.mono hle
 have hm':m.length≤b+4097:=by omega
 have act:∀y:ActT,AR conf c br gs last tb l n7 n8 n9 n10 b y→(fun y:DoT=>GID conf (b+4097) y∧(y.1=0∨y.1=3∨y.1=21∨y.2=(c,br,gs,last,tb,m,l,n7,n8,n9,n10))) (y.1,y.2.1,y.2.2.1,y.2.2.2.1,y.2.2.2.2.1,y.2.2.2.2.2.1,m,y.2.2.2.2.2.2.1,y.2.2.2.2.2.2.2.1,y.2.2.2.2.2.2.2.2.1,y.2.2.2.2.2.2.2.2.2.1,y.2.2.2.2.2.2.2.2.2.2):=fun y h=>by
  obtain⟨h1,h2⟩:=h
  refine⟨⟨h1,hm'⟩,h2.imp id fun q=>q.imp id fun q=>q.imp id fun q=>?_⟩
  simp only[q]
 unfold ZaO Zh8;simp only[Option.bind_some]
 refine Tot.cond (fun _=>Tot.bind (Zo0 hcf hb hG) fun y _ hy=>.ret (act y hy)) fun _=>?_
 refine Tot.cond (fun _=>Tot.bind (ZmG hcf hb hG) fun y _ hy=>.ret (act y hy)) fun _=>?_
 refine Tot.cond (fun _=>Tot.bind (Zqj hG.pk) fun y _ hy=>.ret ⟨⟨hG'.pkt hy.1,hm'⟩,hy.2.imp id fun q=>.inr (.inr (by simp only[q]))⟩) fun _=>?_
 refine Tot.cond (fun _=>Tot.bind (Znd hG.pk) fun y _ hy=>.ret ⟨⟨hG'.pkt hy.1,hm'⟩,hy.2.imp id fun q=>q.imp id fun q=>.inr (by simp only[q])⟩) fun _=>?_
 refine Tot.cond (fun _=>Tot.bind (Zl7 hcf hb hG) fun y _ hy=>.ret (act y hy)) fun _=>?_
 refine Tot.cond (fun _=>Tot.bind (ZoG hG) fun y _ hy=>.ret ⟨⟨hy.1.mono hle,hm'⟩,hy.2.imp id fun q=>.inr (.inr (by simp only[q]))⟩) fun _=>?_
 refine Tot.cond (fun _=>Tot.bind (Zl3 hcf hG) fun y _ hy=>.ret ⟨⟨hy.1.mono hle,hm'⟩,hy.2.imp id fun q=>q.imp id fun q=>q.imp id fun q=>by simp only[q]⟩) fun _=>?_
 refine Tot.cond (fun _=>?_) fun _=>?_
 ·unfold Zeg ZeX ZhN
  simp only[Option.bind_some]
  refine Tot.bind (Q:=fun y:Int×List (mesh_pair×Int)=>y.1=0∧y.2.length≤b+4097) (Tot.bind (Q:=fun y:List (mesh_pair×Int)=>y.length≤b+4097) (Tot.grd (by unfold LIM;omega) (.ret (by have:=Zj5 (mesh_pair.mk (if a.Other<a.Node then a.Other else a.Node) (if a.Other>a.Node then a.Other else a.Node)) (1:Int) m;omega))) fun y _ hy=>.ret ⟨rfl,hy⟩) fun y _ hy=>.ret ⟨⟨hG',hy.2⟩,.inl hy.1⟩
 refine Tot.cond (fun _=>?_) fun _=>?_
 ·unfold ZdW ZeI ZhN
  simp only[Option.bind_some];exact .ret ⟨⟨hG',Nat.le_trans (Zml _ m) hm'⟩,.inl rfl⟩
 refine Tot.cond (fun _=>Tot.bind (Zpt hcf hG) fun y _ hy=>.ret ⟨⟨hy.1.mono hle,hm'⟩,hy.2.imp id fun q=>q.imp id fun q=>.inr (by simp only[q])⟩) fun _=>.ret ⟨⟨hG',hm'⟩,.inr (.inr (.inr rfl))⟩
end
end Go.T
