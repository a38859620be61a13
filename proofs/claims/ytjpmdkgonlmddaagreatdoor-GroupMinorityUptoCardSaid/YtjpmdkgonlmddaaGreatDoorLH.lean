import Derived.Test.YtjpmdkgonlmddaaGreatDoorLG
set_option linter.unusedVariables false
set_option maxRecDepth 20000
namespace Go.T
open Go Go.Ab
theorem ZkG(s:List UInt8)(h:s.length≤1000000):Tot (Zcs FF s) fun y=>y.1<9223372036854775808:=by
 unfold Zcs
 refine tG (by unfold LIM;omega) (tB (Zh6 [1,1] (byI s) (by decide) (by simp) (Znb s) (by rw[Ziq];omega)) fun y _ hy=>tC (fun _=>.ret (by decide)) fun e=>?_)
 have hn:=(hy.1 (by simpa using e)).1
 have hl:=Zin hn
 exact tE (by rw[hl];decide) fun a ha _=>tE (by rw[hl];decide) fun _ _ _=>.ret (nfs_i hn _ _ ha).1
theorem ZqT(rf:Zad)(c s t:Int)(k:Zad)(fs:Fs)(l:List Zaa)(f:List UInt8)(a b:Int)(hc:c<9223372036854775808):Tot (ZgH FF rf c s t k fs l f a b) fun _=>True:=by
 unfold ZgH
 have e:=Zki [Zaf.mk 1 c [],Zaf.mk 1 (IntKind.wrap IntKind.i64 s) []] (fun f hm=>by
  simp only[Yj,WL,or_false]at hm
  rcases hm with rfl|rfl
  ·exact Zgd hc
  ·exact Zgd (wlt _)) (by simp)
 refine tO e ?_
 cases hb:encFs [Zaf.mk 1 c [],Zaf.mk 1 (IntKind.wrap IntKind.i64 s) []]with
 |none=>exact⟨_,rfl,trivial⟩
 |some b=>
  have h1:=ZiS hb
  simp only[Zip h1,Y4];exact⟨_,rfl,trivial⟩
structure NT(b:Nat)(l:List Zab)(n7 n8:List Int):Prop where
 le:l.length≤b
 l7:n7.length=l.length+1
 l8:n8.length=l.length+1
theorem NT.mono{b b':Nat}{l:List Zab}{n7 n8:List Int}(h:NT b l n7 n8)(hb:b≤b'):NT b' l n7 n8:=⟨YV h.le hb,h.l7,h.l8⟩
theorem ZnE(s:Int)(tb:Bool)(d:List UInt8)(h:d.length≤1000000):Tot (ZcM FF s tb (List.map (fun(b_14:UInt8)=>(((UInt8.toNat b_14):Nat):Int)) d)) fun _=>True:=by
 unfold ZcM
 exact tG (by rw[Ya];unfold LIM;omega) (.ret trivial)
theorem Zq3(at_:Int)(e:Zab)(c:List Int)(br:Bool)(gs:List (Int×group_node))(gk last:Int)(tb:Bool)(l:List Zab)(n7 n8:List Int)(n9:List Zai)(rf:Zad)(cnt sum:Int)(n10:List Zae)(m:List (mesh_pair×Int))(tot:Int)(k:Zad)(fs:Fs)(w:List Zaa)(f:List UInt8)(x y:Int)
 (b:Nat) (h:NT b l n7 n8) (hb:b≤100000000) (ha:1≤at_) (hm:at_≤9223372036854775807) (hd:e.Data.length≤4096):
 Tot (ZcV FF at_ e c br gs gk last tb l n7 n8 n9 rf cnt sum n10 m tot k fs w f x y) fun r=>∃br' tb' l' n7' n8',r=(c,br',last,tb',tot,l',n7',n8',n9,n10,w)∧NT (b+1) l' n7' n8':=by
 obtain⟨h1,h2,h3⟩:=h
 unfold ZcV
 refine tT (fun q=>?_) fun q=>tC (fun q2=>?_) fun q2=>.ret ⟨_,_,_,_,_,rfl,by omega,h2,h3⟩
 ·rw[wi64 (by omega) (by omega)]
  refine tB (Q:=fun _=>True) (tC (fun _=>.ret trivial) fun _=>tG (by omega) (tE (by omega) fun _ _ _=>tE (by omega) fun _ _ _=>.ret trivial)) fun b2 _ _=>.ret ⟨_,_,_,_,_,rfl,by omega,h2,h3⟩
 ·rw[Ya,Int.toNat_natCast]
  refine tE (by omega) fun _ _ _=>tE (by omega) fun z _ _=>tB (Q:=fun _=>True) (tC (fun _=>.ret trivial) fun _=>.ret trivial) fun cn _ _=>tG (by unfold LIM;omega) (tG (by unfold LIM;omega) (tE (by omega) fun _ _ _=>tE (by omega) fun _ _ _=>tG (by unfold LIM;omega) (tB (ZnE _ _ _ (by omega)) fun mo _ _=>tG (by unfold LIM;omega) (.ret ⟨_,_,_,_,_,rfl,?_,?_,?_⟩))))
  ·simp;omega
  ·simp;omega
  ·simp;omega
theorem ZoS(from_:Int)(c:List Int)(br:Bool)(r:Zad)(cnt sum:Int)(gs:List (Int×group_node))(gk last:Int)(tb:Bool)(l:List Zab)(n7 n8:List Int)(n9:List Zai)(tot:Int)(k:Zad)(n10:List Zae)(m:List (mesh_pair×Int))(fs:Fs)(w:List Zaa)(f:List UInt8)(x y:Int)
 (b:Nat) (h:NT b l n7 n8) (hb:b≤90000000) (hr:Zk8 r) (hf:0≤from_) (hf2:from_≤1099511627776) (hc:cnt<9223372036854775808):
 Tot (ZbJ FF from_ c br r cnt sum gs gk last tb l n7 n8 n9 tot k n10 m fs w f x y) fun q=>∃br' cnt' sum' tb' l' n7' n8',q=(c,br',r,cnt',sum',last,tb',tot,l',n7',n8',n9,n10,w)∧NT (b+4096) l' n7' n8'∧cnt'<9223372036854775808:=by
 have hT:=hr.tr
 have b0:=hT.b0
 have bl:=hT.last
 have ll:=hT.len
 have c0:=hr.cm0
 have c1:=hr.cm1
 have h7:=h.l7
 have h8:=h.l8
 unfold ZbJ
 refine tB (Q:=fun z:Int×Bool×Int×Int=>r.Trail.Base≤z.1∧z.1≤1099511627776∧z.2.2.1<9223372036854775808) (tT (fun a=>?_) fun a=>.ret ⟨by simp only;omega,hf2,hc⟩) fun z _ hz=>?_
 ·refine tB (ZkG _ (by have:=hr.sn;omega)) fun u _ hu=>tB (Q:=fun _=>True) (tC (fun _=>.ret trivial) fun _=>tT (fun _=>.ret trivial) fun q=>tG b0 (tE (by omega) fun _ _ _=>tE (by omega) fun _ _ _=>tC (fun _=>.ret trivial) fun _=>tG b0 (tE (by omega) fun _ _ _=>tE (by omega) fun _ _ _=>.ret trivial))) fun b2 _ _=>.ret ⟨Vj _,hT.b1,hu⟩
 obtain⟨fr,br2,cn2,sm2⟩:=z
 obtain⟨z1,z2,z3⟩:=hz
 simp only at z1 z2 z3⊢
 rw[wi64 (by omega) (by omega)]
 have key:=loopT (fun n (s:Int×Bool×Int×Int×Bool×List Zab×List Int×List Int)=>ZaP FF r gs gk k m fs f x y n s.1 c s.2.1 s.2.2.1 s.2.2.2.1 last s.2.2.2.2.1 tot s.2.2.2.2.2.1 s.2.2.2.2.2.2.1 s.2.2.2.2.2.2.2 n9 n10 w)
  (fun s=>r.Trail.Base+1≤s.1∧s.1≤1099511627777∧(s.1≤r.Commit+1→NT (b+(s.1-r.Trail.Base-1).toNat) s.2.2.2.2.2.1 s.2.2.2.2.2.2.1 s.2.2.2.2.2.2.2)∧(r.Commit+1<s.1→NT b s.2.2.2.2.2.1 s.2.2.2.2.2.2.1 s.2.2.2.2.2.2.2)∧s.2.2.1<9223372036854775808) (fun s=>(r.Commit+1-s.1).toNat)
  (fun q=>∃br' cnt' sum' tb' l' n7' n8',q=(c,br',cnt',sum',last,tb',tot,l',n7',n8',n9,n10,w)∧NT (b+4096) l' n7' n8'∧cnt'<9223372036854775808) (by
   rintro n ⟨at_,br,cn,sm,tb,l,n7,n8⟩ ⟨g1,g1',g2,g3,g4⟩ kk;simp only at g1 g1' g2 g3 g4 kk⊢;simp only[ZaP]
   refine tT (fun a=>?_) fun a=>.ret ⟨_,_,_,_,_,_,_,rfl,?_,g4⟩
   ·have hN:=g2 (by omega)
    rw[show IntKind.wrap IntKind.i64 (at_-r.Trail.Base)=at_-r.Trail.Base from wi64 (by omega) (by omega),wi64 (x:=at_-r.Trail.Base-1) (by omega) (by omega)]
    refine tG (by omega) (tE (by omega) fun e _ he=>?_)
    have hd:=(hT.ent e he).2.2
    refine tB (Q:=fun z=>z<9223372036854775808) (tC (fun _=>.ret (wlt _)) fun _=>.ret g4) fun cn' _ hcn=>tG (by unfold LIM;omega) (tB (ZnE _ _ _ (by omega)) fun mo _ _=>tB (Zq3 at_ e c br gs gk last _ l n7 n8 n9 r _ _ n10 m tot k fs w f x y _ hN (by omega) (by omega) (by omega) hd) fun q _ hq=>?_)
    obtain⟨br',tb',l',n7',n8',rfl,hN'⟩:=hq
    rw[wi64 (x:=at_+1) (by omega) (by omega)]
    exact kk (at_+1,br',cn',mo.1,tb',l',n7',n8') ⟨by simp only;omega,by simp only;omega,fun _=>hN'.mono (by simp only;omega),fun _=>by simp only at*;omega,hcn⟩ (by simp only;omega)
   ·by_cases q:at_≤r.Commit+1
    ·exact(g2 q).mono (by omega)
    ·exact(g3 (by omega)).mono (by omega)) FF (fr+1,br2,cn2,sm2,tb,l,n7,n8) ⟨by simp only;omega,by simp only;omega,fun _=>h.mono (by simp only;omega),fun _=>h,z3⟩ (by simp only[FF];omega)
 refine tB key fun q _ hq=>?_
 obtain⟨br',cnt',sum',tb',l',n7',n8',rfl,hN,hc'⟩:=hq
 exact .ret ⟨_,_,_,_,_,_,_,rfl,hN,hc'⟩
theorem Zn6(from_:Int)(c:List Int)(br:Bool)(r:Zad)(cnt sum:Int)(gs:List (Int×group_node))(gk last:Int)(tb:Bool)(l:List Zab)(n7 n8:List Int)(n9:List Zai)(tot:Int)(k:Zad)(n10:List Zae)(m:List (mesh_pair×Int))(fs:Fs)(w:List Zaa)(f:List UInt8)(x y:Int)
 (hr:Zk8 r) (h:r.Commit=from_) {P:_→Prop} (hP:P (c,br,r,cnt,sum,last,tb,tot,l,n7,n8,n9,n10,w)):Tot (ZbJ FF from_ c br r cnt sum gs gk last tb l n7 n8 n9 tot k n10 m fs w f x y) P:=by
 have c0:=hr.cm0;have c1:=hr.cm1;have b0:=hr.tr.b0;have bl:=hr.tr.last
 unfold ZbJ
 rw[Yi (by omega:¬from_<r.Trail.Base),Y7,Y0]
 simp only
 rw[wi64 (by omega) (by omega)]
 have:∀n,ZaP FF r gs gk k m fs f x y (n+1) (from_+1) c br cnt sum last tb tot l n7 n8 n9 n10 w=some (c,br,cnt,sum,last,tb,tot,l,n7,n8,n9,n10,w):=fun n=>by
  simp only[ZaP]
  rw[Yi (by omega),Y7]
 exact⟨_,by rw[show FF=(FF-1)+1 by simp only[FF]];rw[show(FF-1+1)=FF by simp only[FF]];exact(YI (fun z=>Option.bind z _) (show ZaP FF r gs gk k m fs f x y FF (from_+1) c br cnt sum last tb tot l n7 n8 n9 n10 w=_ from this (FF-1))),hP⟩
structure PK(C:List Int)(b:Nat)(x:Int)(l:List Zae):Prop where
 le:l.length≤512
 x0:0≤x
 xb:x≤b
 pk:∀p,p∈l→p.Body.length≤65536∧p.From∈C∧p.To≠p.From∧p.Id≤x
 un:l.Pairwise fun p q=>p.Id≠q.Id
theorem PK.mono{C:List Int}{b b':Nat}{x:Int}{l:List Zae}(h:PK C b x l)(e:b≤b'):PK C b' x l:=⟨h.le,h.x0,by have:=h.xb;omega,h.pk,h.un⟩
theorem Zqs{C:List Int}{b:Nat}(p:Zae)(c:Int)(l:List Zae)(m:List (mesh_pair×Int))(h:PK C b c l)(hb:b≤1000000000)(hp:p.Body.length≤65536∧p.From∈C∧p.To≠p.From):Tot (Zc6 FF p c l m) fun y=>PK C (b+1) y.2.2.1 y.2.2.2:=by
 unfold Zc6
 have h1:=h.le;have h2:=h.x0;have h3:=h.xb
 rw[wi64 (x:=c+1) (by omega) (by omega)]
 refine tT (fun _=>.ret (h.mono (Wl ..))) fun a=>tG (by unfold LIM;omega) (.ret ⟨by simp;omega,by simp only;omega,by simp only;omega,fun q hq=>?_,?_⟩)
 ·rcases Yy.1 hq with e|e
  ·have:=h.pk q e;exact⟨this.1,this.2.1,this.2.2.1,by simp only;omega⟩
  ·simp only[YB]at e;subst e;exact⟨hp.1,hp.2.1,hp.2.2,Vj _⟩
 ·rw[List.pairwise_append]
  refine⟨h.un,List.pairwise_singleton ..,fun q hq r hr=>?_⟩
  simp only[YB]at hr;subst hr
  have:=(h.pk q hq).2.2.2;simp only;omega
theorem ZpB{C:List Int}{b:Nat}(fr to_:Int)(d:List UInt8)(c:Int)(l:List Zae)(m:List (mesh_pair×Int))(h:PK C b c l)(hb:b≤1000000000)(h1:fr∈C)(h2:to_≠fr):Tot (ZdD FF fr to_ d c l m) fun y=>PK C (b+1) y.2.2.1 y.2.2.2:=by
 unfold ZdD
 exact tT (fun _=>.ret (h.mono (Wl ..))) fun a=>tB (Zqs _ c l m h hb ⟨by simp only;omega,h1,h2⟩) fun y _ hy=>.ret hy
theorem Zr7{C:List Int}{b:Nat}(out:List Zac)(m:List (mesh_pair×Int))(c:Int)(l:List Zae)(ho:out.length≤1000)(hb:b≤100000000)(hm:∀x,x∈out→MC C x)(h:PK C b c l):Tot (ZaZ FF out m FF 0 c l) fun y=>PK C (b+1000) y.1 y.2:=by
 have:=loopT (fun n (s:Nat×Int×List Zae)=>ZaZ FF out m n (s.1:Int) s.2.1 s.2.2) (fun s=>s.1≤out.length∧PK C (b+s.1) s.2.1 s.2.2) (fun s=>out.length-s.1) (fun y=>PK C (b+1000) y.1 y.2) (by
  rintro n ⟨i,c,l⟩ ⟨h1,h2⟩ k;simp only at h1 h2 k⊢;simp only[ZaZ]
  refine tT (fun a=>?_) fun _=>.ret (h2.mono (by omega))
  refine tG (by omega) (tE (by simp;omega) fun x _ hx=>tB (ZqC x (hm x hx).1) fun _ _ _=>tB (ZpB _ _ _ c l m h2 (by omega) (hm x hx).2.1 (hm x hx).2.2) fun y _ hy=>?_)
  rw[w1 (by omega)]
  exact k (i+1,y.2.2.1,y.2.2.2) ⟨by simp only;omega,hy⟩ (by simp only;omega)) FF (0,c,l) ⟨Yv _,h⟩ (by simp only[FF];omega)
 exact this
theorem Zrd(s:List Zai)(v:Zai)(hl:s.length≤3000000):Tot (ZaQ FF s v) fun _=>True:=by
 unfold ZaQ Zbp
 have:=loopT (fun n (i:Nat)=>ZaD FF s v n (i:Int)) (fun i=>i≤s.length) (fun i=>s.length-i) (fun _=>True) (by
  intro n i h1 k;simp only[ZaD]
  refine tT (fun a=>?_) fun _=>.ret trivial
  refine tG (by omega) (tE (by simp;omega) fun x _ _=>tC (fun _=>.ret trivial) fun _=>?_)
  rw[w1 (by omega)]
  exact k (i+1) (by omega) (by omega)) FF 0 (Yv _) (by simp only[FF];omega)
 refine tB (Q:=fun _=>True) (tB (Q:=fun _=>True) this fun o _ _=>?_) fun _ _ _=>.ret trivial
 rcases o with r|r
 ·exact .ret trivial
 ·exact .ret trivial
theorem ZlD(keep torn:Int)(rf:Zad)(a b c:Int)(k:Zad)(fs:Fs)(l:List Zaa)(f:List UInt8)(x y:Int)(hD:DI c fs)(hW:WI fs l):
 Tot (Zb3 FF keep torn rf a b c k fs l f x y) fun q=>DI q.2.2.2.1 q.2.2.2.2:=by
 unfold Zb3
 exact tB (Zqe keep torn c fs l hD hW) fun q _ hq=>.ret hq
theorem ZjL(rf:Zad)(a b c:Int)(k:Zad)(fs:Fs)(l:List Zaa)(f:List UInt8)(x y:Int)(hD:DI c fs)(hW:WI fs l):
 Tot (ZbL FF rf a b c k fs l f x y) fun q=>q.1=3∧DI q.2.2.2.2.1 q.2.2.2.2.2:=by
 unfold ZbL
 exact tB (ZlD 0 0 rf a b c k fs l f x y hD hW) fun q _ hq=>.ret ⟨rfl,hq⟩
section
variable {κ ν:Type}[DecidableEq κ]
theorem Zj5{q:κ}{x:ν}:∀{l:List (κ×ν)},mget q l=some x→(q,x)∈l
 | [],h=>by cases h
 |e::r,h=>by
  simp only[mget]at h
  by_cases k:q=e.1
  ·rw[if_pos k]at h;cases h;subst k;exact Ys ..
  ·rw[if_neg k]at h;exact Yk _ (Zj5 h)
theorem ZgF{q:κ}{x:ν}{e:κ×ν}:∀{l:List (κ×ν)},e∈mput q x l→e=(q,x)∨e∈l
 | [],h=>by simp[mput]at h;exact .inl h
 |d::r,h=>by
  simp only[mput]at h
  by_cases k:q=d.1
  ·rw[if_pos k]at h
   rcases Yj.1 h with h|h
   ·exact .inl h
   ·exact .inr (Yk _ h)
  ·rw[if_neg k]at h
   rcases Yj.1 h with h|h
   ·exact .inr (by rw[h];exact Ys ..)
   ·rcases ZgF h with h|h
    ·exact .inl h
    ·exact .inr (Yk _ h)
theorem Zf0{q:κ}{x:ν}:∀{l:List (κ×ν)},mget q l=some x→mput q x l=l
 | [],h=>by cases h
 |e::r,h=>by
  simp only[mget]at h;simp only[mput]
  by_cases k:q=e.1
  ·rw[if_pos k]at h;cases h;rw[if_pos k,k]
  ·rw[if_neg k]at h;rw[if_neg k,Zf0 h]
theorem ZiE(q:κ)(x:ν):∀(l:List (κ×ν)),(mput q x l).length≤l.length+1
 | []=>by simp[mput]
 |e::r=>by
  have:=ZiE q x r
  simp only[mput];split<;>simp only[Yf]<;>omega
theorem Zmf(q:κ):∀(l:List (κ×ν)),(mdel q l).length≤l.length
 | []=>by simp[mdel]
 |e::r=>by
  have:=Zmf q r
  simp only[mdel];split<;>simp only[Yf]<;>omega
end
theorem Zj3{κ ν:Type}[DecidableEq κ]{p q:κ}{x:ν}(h:p≠q):∀(l:List (κ×ν)),mget p (mput q x l)=mget p l
 | []=>by simp[mput,mget,h]
 |e::r=>by
  simp only[mput]
  by_cases k:q=e.1
  ·rw[if_pos k];simp only[mget];rw[if_neg h,if_neg (fun z=>h (z.trans k.symm))]
  ·rw[if_neg k];simp only[mget]
   by_cases z:p=e.1
   ·rw[if_pos z,if_pos z]
   ·rw[if_neg z,if_neg z,Zj3 h r]
theorem Zge{κ ν:Type}[DecidableEq κ]{q:κ}{x:ν}:∀(l:List (κ×ν)),mget q (mput q x l)=some x
 | []=>by simp[mput,mget]
 |e::r=>by
  simp only[mput]
  by_cases k:q=e.1
  ·rw[if_pos k];simp[mget]
  ·rw[if_neg k];simp only[mget];rw[if_neg k,Zge r]
def NdK(conf:List Int):group_node→Prop
 |.inl d=>DI d.total d.files∧WI d.files d.waits
 |.inr u=>WK u.file u.last u.recs u.total u.files u.waits∧KK u.kept∧RK u.raft∧u.raft.Conf=conf∧u.count<9223372036854775808∧(u.raft.Role=2→OA (hd u.raft) u.raft.Match)
structure GI(conf:List Int)(b:Nat)(c:List Int)(gs:List (Int×group_node))(last:Int)(l:List Zab)(n7 n8:List Int)(n9:List Zai)(n10:List Zae):Prop where
 cc:c=conf
 nd:∀e,e∈gs→e.1∈conf∧NdK conf e.2
 nt:NT b l n7 n8
 ld:n9.length≤b
 pk:PK conf b last n10
section
variable {conf:List Int}{b:Nat}{c:List Int}{gs:List (Int×group_node)}{last:Int}{l:List Zab}{n7 n8:List Int}{n9:List Zai}{n10:List Zae}
theorem GI.mono{b':Nat}(h:GI conf b c gs last l n7 n8 n9 n10)(hb:b≤b'):GI conf b' c gs last l n7 n8 n9 n10:=⟨h.cc,h.nd,h.nt.mono hb,YV h.ld hb,h.pk.mono hb⟩
theorem GI.put(h:GI conf b c gs last l n7 n8 n9 n10){k:Int}{x:group_node}(hk:Option.isSome (mget k gs)=true)(hx:NdK conf x):GI conf b c (mput k x gs) last l n7 n8 n9 n10:=by
 refine⟨h.cc,fun e he=>?_,h.nt,h.ld,h.pk⟩
 rcases ZgF he with rfl|he
 ·obtain⟨v,hv⟩:=YQ.1 hk
  exact⟨(h.nd _ (Zj5 hv)).1,hx⟩
 ·exact h.nd e he
theorem GI.get(h:GI conf b c gs last l n7 n8 n9 n10){k:Int}{x:group_node}(hk:mget k gs=some x):k∈conf∧NdK conf x:=h.nd _ (Zj5 hk)
end
abbrev ActT:=Int×(List Int)×Bool×(List (Int×group_node))×Int×Bool×(List Zab)×(List Int)×(List Int)×(List Zai)×(List Zae)
abbrev StpT:=Int×(List Int)×Bool×(List (Int×group_node))×Int×Bool×Zad×(List UInt8)×Int×Int×(List Zab)×(List Int)×(List Int)×(List Zai)×(List Zae)
def GIA(conf:List Int)(b:Nat)(y:ActT):Prop:=GI conf b y.2.1 y.2.2.2.1 y.2.2.2.2.1 y.2.2.2.2.2.2.1 y.2.2.2.2.2.2.2.1 y.2.2.2.2.2.2.2.2.1 y.2.2.2.2.2.2.2.2.2.1 y.2.2.2.2.2.2.2.2.2.2
def GIS(conf:List Int)(b:Nat)(y:StpT):Prop:=GI conf b y.2.1 y.2.2.2.1 y.2.2.2.2.1 y.2.2.2.2.2.2.2.2.2.2.1 y.2.2.2.2.2.2.2.2.2.2.2.1 y.2.2.2.2.2.2.2.2.2.2.2.2.1 y.2.2.2.2.2.2.2.2.2.2.2.2.2.1 y.2.2.2.2.2.2.2.2.2.2.2.2.2.2
theorem dn(conf:List Int){t:Int}{fs:Fs}(h:DI t fs)(r:Zad)(a b:Int):NdK conf (.inl (group_nodeD.mk fs [] t r a b)):=⟨h,WI.nil fs⟩
def Sty(gk C:Int)(gs:List (Int×group_node)):Prop:=∀u,mget gk gs=some (.inr u)→u.raft.Commit=C
theorem Zlf(conf:List Int)(hcf:CF conf)(id:Int)(r_:Zad)(out:List Zac)(a:Zau)(c:List Int)(br:Bool)(gs:List (Int×group_node))(gk last:Int)(tb:Bool)(l:List Zab)(n7 n8:List Int)(n9:List Zai)(rf:Zad)(cnt sum:Int)(n10:List Zae)(m:List (mesh_pair×Int))(tot:Int)(k:Zad)(fs:Fs)(w:List Zaa)(f:List UInt8)(x y:Int)
 (b:Nat) (hb:b≤2000000) (hG:GI conf b c gs last l n7 n8 n9 n10) (hid:id=gk) (hk:Option.isSome (mget gk gs)=true) (hN:NdK conf (.inr (group_nodeU.mk fs w tot f x y k rf cnt sum))) (hs:Small r_) (hrc:r_.Conf=conf) (ho:out.length≤1000) (hm:∀x,x∈out→MC conf x) (hoa:r_.Role=2→OA (hd r_) r_.Match):
 Tot (Zbk FF id r_ out a c br gs gk last tb l n7 n8 n9 rf cnt sum n10 m tot k fs w f x y) fun o=>(∀z,o=.inl z→GIS conf (b+4097) z∧Sty gk r_.Commit z.2.2.2.1∧(r_.Commit=rf.Commit→z.2.2.2.2.2.2.2.2.2.2.1=l))∧∀z,o=.inr z→GIA conf (b+4097) z∧Sty gk r_.Commit z.2.2.2.1∧(r_.Commit=rf.Commit→z.2.2.2.2.2.2.1=l):=by
 obtain⟨hw,hkk,hrk,hrf,hct, -⟩:=hN
 simp only at hw hkk hrk hrf hct
 have dst:∀(d:group_nodeD),Sty gk r_.Commit (mput gk (.inl d) gs):=fun d u e=>by rw[Zge]at e;cases e
 have hle:b≤b+4097:=Wl ..
 unfold Zbk
 rw[show(decide (id=gk)&&Option.isSome (mget gk gs))=true from by rw[hk,Y2 hid];rfl,Y4]
 refine tB (ZlP r_ k f x y tot fs w hw hkk hs (by rw[hrc];exact hcf.lt)) fun y0 _ h0=>?_
 obtain⟨e0,k0,f0,x0,y0,t0,fs0,w0⟩:=y0
 obtain⟨hw0,hk0,hr0⟩:=h0
 simp only at hw0 hk0 hr0⊢;simp only[hk,Y4]
 refine tC (fun _=>tB (ZjL rf cnt sum t0 k0 fs0 w0 f0 x0 y0 hw0.di hw0.wi) fun q _ hq=>.ret ⟨fun z e=>by cases e;exact⟨(hG.mono hle).put hk (dn conf hq.2 ..),dst _,fun _=>rfl⟩,fun z e=>by cases e⟩) fun e=>?_
 have hR:=hr0 (by simpa using e)
 refine tC (fun _=>tB (ZlD a.Keep a.Torn rf cnt sum t0 k0 fs0 w0 f0 x0 y0 hw0.di hw0.wi) fun q _ hq=>.ret ⟨fun z e=>by cases e;exact⟨(hG.mono hle).put hk (dn conf hq ..),dst _,fun _=>rfl⟩,fun z e=>by cases e⟩) fun _=>?_
 obtain⟨hse,hsw⟩:=Zno k0 f0 x0 y0 t0 fs0 w0 hw0
 refine tO hse (tB (Zr7 out m last n10 ho (by omega) hm hG.pk) fun q _ hq=>?_)
 obtain⟨last1,p1⟩:=q
 simp only at hq⊢
 have hc0:=hrk.ok.cm0;have hc1:=hrk.ok.cm1;have hb0:=hrk.ok.tr.b0;have hbl:=hrk.ok.tr.last
 refine tB (Q:=fun q=>(∃br' cnt' sum' tb' l' n7' n8',q=(c,br',r_,cnt',sum',last1,tb',t0,l',n7',n8',n9,p1,fgt f0 w0)∧NT (b+4096) l' n7' n8'∧cnt'<9223372036854775808)∧(r_.Commit=rf.Commit→q.2.2.2.2.2.2.2.2.1=l)) (by
  obtain⟨q,e,h⟩:=ZoS rf.Commit c br r_ cnt sum gs gk last1 tb l n7 n8 n9 t0 k0 p1 m fs0 (fgt f0 w0) f0 x0 y0 b hG.nt (by omega) hR.ok (by omega) (by omega) hct
  refine⟨q,e,h,fun hc=>?_⟩
  obtain⟨q2,e2,h2⟩:=Zn6 rf.Commit c br r_ cnt sum gs gk last1 tb l n7 n8 n9 t0 k0 p1 m fs0 (fgt f0 w0) f0 x0 y0 hR.ok hc (P:=fun q=>q.2.2.2.2.2.2.2.2.1=l) rfl
  rw[e]at e2;cases e2;exact h2) fun q _ hq2=>?_
 obtain⟨⟨br',cnt',sum',tb',l',n7',n8',rfl,hN,hc'⟩,hls⟩:=hq2
 simp only at hls;simp only
 have hld:=hG.ld
 refine tB (Q:=fun _=>True) (tC (fun _=>tB (Zrd n9 _ (by omega)) fun _ _ _=>.ret trivial) fun _=>.ret trivial) fun t _ _=>tB (Q:=fun n9':List Zai=>n9'.length≤b+1) (tC (fun _=>tG (by unfold LIM;omega) (.ret (by simp;omega))) fun _=>.ret (by omega)) fun n9' _ h9=>?_
 refine tB (Q:=fun q:Bool×Int×Fs×List UInt8×Int×Int×List Zaa=>(q.1=false→WK q.2.2.2.1 q.2.2.2.2.1 q.2.2.2.2.2.1 q.2.1 q.2.2.1 q.2.2.2.2.2.2)∧DI q.2.1 q.2.2.1∧WI q.2.2.1 q.2.2.2.2.2.2) ?_ fun q _ hq3=>?_
 ·unfold Zdp ZeT
  simp only[Y0]
  refine tT (fun _=>tB (ZlY k0 f0 x0 y0 t0 fs0 (fgt f0 w0) hsw hk0) fun p _ hp=>.ret ⟨fun e=>hp.1 (by simpa using e),hp.2⟩) fun _=>.ret ⟨fun _=>hsw,hsw.di,hsw.wi⟩
 obtain⟨tt,t2,fs2,f2,x2,y2,w2⟩:=q
 obtain⟨q1,q2,q3⟩:=hq3
 simp only at q1 q2 q3⊢
 have hG':GI conf (b+4097) c gs last1 l' n7' n8' n9' p1:=⟨hG.cc,hG.nd,hN.mono (by omega),by omega,hq.mono (by omega)⟩
 refine tC (fun _=>tB (ZjL r_ cnt' sum' t2 k0 fs2 w2 f2 x2 y2 q2 q3) fun q _ hq=>.ret ⟨fun z e=>by cases e;exact⟨hG'.put hk (dn conf hq.2 ..),dst _,hls⟩,fun z e=>by cases e⟩) fun e=>.ret ⟨(fun z e=>by cases e),fun z e2=>?_⟩
 cases e2
 exact⟨hG'.put hk ⟨q1 e,hk0,hR,hrc,hc',hoa⟩,(fun u e=>by rw[Zge]at e;cases e;rfl),hls⟩
section
variable (conf:List Int)(a:Zau)(c:List Int)(br:Bool)(gs:List (Int×group_node))(last:Int)(tb:Bool)(l:List Zab)(n7 n8:List Int)(n9:List Zai)(n10:List Zae)(m:List (mesh_pair×Int))(b:Nat)
theorem Zfb(id:Int):(∃e,e≠0∧Zay FF id c br gs last tb l n7 n8 n9 n10 m=some (.inl (e,gs)))∨
 ∃u:group_nodeU,mget id gs=some (.inr u)∧Zay FF id c br gs last tb l n7 n8 n9 n10 m=some (.inr (0,gs,id,u.raft,u.count,u.sum,u.total,u.kept,u.files,u.waits,u.file,u.last,u.recs)):=by
 unfold Zay
 cases h:mget id gs with
 |none=>exact .inl ⟨1,by decide,rfl⟩
 |some x=>
  cases x with
  |inl d=>
   refine .inl ⟨4,by decide,?_⟩
   simp only[Option.elim_some,Sum.elim_inl,Option.isSome_some,Y4];rw[Zf0 h]
  |inr u=>exact .inr ⟨u,rfl,rfl⟩
def AR(y:ActT):Prop:=GIA conf (b+4097) y∧(2≤conf.length→∀C,Sty a.Node C gs→Sty a.Node C y.2.2.2.1∧y.2.2.2.2.2.2.1=l)
variable {conf a c br gs last tb l n7 n8 n9 n10 m b}
theorem Res.small{h:Zah}{v n k:List Int}{out:List Zac}(q:Res conf h v n k out)(h7:conf.length≤7)(x y:Int):Small (Zad.mk h.Id h.Conf h.Term h.Vote h.Role h.Leader h.Trail h.Snap h.Commit x y v n k):=
 ⟨by show h.Conf.length≤_;rw[q.cf];omega,by show h.Trail.Entries.length≤_;have:=q.tl;omega,by show v.length≤_;have:=q.vl;omega,by show n.length≤_;have:=q.nl;omega,by show k.length≤_;have:=q.ml;omega⟩
theorem ZlS(hcf:CF conf)(hb:b≤2000000)(hG:GI conf b c gs last l n7 n8 n9 n10):Tot (ZcT FF a c br gs last tb l n7 n8 n9 n10 m) (AR conf a gs l b):=by
 have hG':=hG.mono (Wl b 4097)
 unfold ZcT
 rcases Zfb c br gs last tb l n7 n8 n9 n10 m a.Node with ⟨e,he,h⟩|⟨u,hu,h⟩
 ·refine tO h ?_
  simp only[Sum.elim_inl]
  exact tC (fun _=>.ret ⟨hG',fun _ C h=>⟨h,rfl⟩⟩) fun q=>absurd (by simpa using q) he
 ·refine tO h ?_
  simp only[Sum.elim_inr,show((0:Int) != 0)=false from rfl,Y7]
  have hN:=(hG.get hu).2
  have hR:RO u.raft:=⟨hN.2.2.1,by rw[hN.2.2.2.1];exact hcf.ck,hN.2.2.2.2.2⟩
  refine tB (ZqI u.raft hR a.Draw) fun y _ hy=>?_
  obtain⟨h,v,n,k,out,rfl,hr,hcm⟩:=hy
  rw[hN.2.2.2.1]at hr hcm
  refine tB (Zlf conf hcf a.Node _ _ a c br gs a.Node last tb l n7 n8 n9 u.raft u.count u.sum n10 m u.total u.kept u.files u.waits u.file u.last u.recs b hb hG rfl (by rw[hu];rfl) hN (hr.small hcf.ok.n7 _ _) hr.cf (by have:=hr.ol;show out.length≤_;omega) hr.om hr.oa) fun o _ ho=>?_
  rcases o with z|z
  ·have:=ho.1 z rfl
   exact .ret ⟨this.1,fun h2 C hC=>⟨by rw[←hC u hu,←hcm h2];exact this.2.1,this.2.2 (hcm h2)⟩⟩
  ·have:=ho.2 z rfl
   exact .ret ⟨this.1,fun h2 C hC=>⟨by rw[←hC u hu,←hcm h2];exact this.2.1,this.2.2 (hcm h2)⟩⟩
theorem Zj6(id:Int)(x:Int)(hl:n10.length≤1000000):Tot (Zcj FF id x n10 m) fun i=>i<n10.length∧(0≤i→∃p,n10[i.toNat]? =some p∧p.Id=id):=by
 unfold Zcj ZaX
 have:=loopT (fun n (i:Nat)=>Zas FF n10 id n (i:Int)) (fun i=>i≤n10.length) (fun i=>n10.length-i) (fun o=>(∀r,o=.inl r→r<n10.length∧(0≤r→∃p,n10[r.toNat]? =some p∧p.Id=id))∧∀u:Unit,o=.inr u→True) (by
  intro n i h1 k;simp only[Zas]
  refine tT (fun q=>?_) fun _=>.ret ⟨(fun r e=>by cases e),fun _ _=>trivial⟩
  refine tG (by omega) (tE (by simp;omega) fun x hx _=>tB (Q:=fun b=>b=true→x.Id=id) (by unfold ZdS;exact .ret fun e=>by simpa using e) fun t _ ht=>tC (fun e=>.ret ⟨fun r e2=>by cases e2;exact⟨by omega,fun _=>⟨x,hx,ht e⟩⟩,fun _ _=>trivial⟩) fun _=>?_)
  rw[w1 (by omega)]
  exact k (i+1) (by omega) (by omega)) FF 0 (Yv _) (by simp only[FF];omega)
 refine tB (tL this (fun r h=>.ret h) fun _ _=>.ret ⟨by omega,fun h=>absurd h (by decide)⟩) fun i _ h=>.ret h
theorem Zmc(i x:Int)(h0:0≤i)(h1:i<n10.length)(h:PK conf b x n10):Tot (ZcK FF i x n10 m) fun y=>y.1.Body.length≤65536∧PK conf b y.2.1 y.2.2:=by
 have hl:=h.le
 unfold ZcK
 refine tG h0 (tE (by omega) fun p _ hp=>tE (by omega) fun p2 _ hp2=>?_)
 unfold ZaY
 rw[wi64 (by omega) (by omega)]
 refine tB (Q:=PK conf b x) (tG ⟨h0,rfl,by omega⟩ (.ret ⟨by simp;omega,h.x0,h.xb,fun q hq=>?_,?_⟩)) fun y _ hy=>.ret ⟨(h.pk _ hp2).1,hy⟩
 ·rcases Yy.1 hq with e|e
  ·exact h.pk q (YZ e)
  ·exact h.pk q (Wc e)
 ·have:=h.un
  rw[←List.eraseIdx_eq_take_drop_succ];exact this.sublist (List.eraseIdx_sublist ..)
theorem ZkU(id x:Int)(h:PK conf b x n10):Tot (Zcz FF id x n10 m) fun y=>PK conf b y.2.2.1 y.2.2.2∧y.1.Body.length≤65536∧((∀p,p∈n10→p.Id=id→Option.getD (mget (mesh_pair.mk (if p.To<p.From then p.To else p.From) (if p.To>p.From then p.To else p.From)) m) 0≠0)→y.2=(false,x,n10)):=by
 have hl:=h.le
 unfold Zcz
 refine tB (Zj6 id x (by omega)) fun i _ hi=>?_
 refine tB (Q:=fun t=>t=false→0≤i∧¬∀p,p∈n10→p.Id=id→Option.getD (mget (mesh_pair.mk (if p.To<p.From then p.To else p.From) (if p.To>p.From then p.To else p.From)) m) 0≠0) (tT (fun _=>.ret (by simp)) fun q=>tG (by omega) (tE (by omega) fun _ _ _=>tE (by omega) fun p hp hpm=>?_)) fun t _ ht=>tC (fun _=>.ret ⟨h,by simp,fun _=>rfl⟩) fun e=>?_
 ·unfold ZeE ZgZ
  refine .ret fun e=>⟨by omega,fun hall=>?_⟩
  obtain⟨p',h1,h2⟩:=hi.2 (by omega)
  rw[hp]at h1;cases h1
  exact hall p hpm h2 (by simpa using e)
 ·exact tB (Zmc i x (ht e).1 hi.1 h) fun y _ hy=>.ret ⟨hy.2,hy.1,fun q=>absurd q (ht e).2⟩
theorem GI.pkt{p:List Zae}{x:Int}(h:GI conf b c gs last l n7 n8 n9 n10)(hp:PK conf b x p):GI conf b c gs x l n7 n8 n9 p:=⟨h.cc,h.nd,h.nt,h.ld,hp⟩
theorem Zro(b:List UInt8)(h:b.length≤1000000):Tot (Zfg FF b) fun y=>0≤y.1∧y.1≤255:=by
 unfold Zfg
 have hb:∀c:UInt8,c.toNat<256:=fun c=>c.toNat_lt
 have:=loopT (fun n (s:Nat×Int)=>Zc4 FF b n (s.1:Int) s.2) (fun s=>s.1≤b.length) (fun s=>b.length-s.1) (fun o=>(∀r,o=.inl r→0≤r.1∧r.1≤255)∧∀u:Unit,o=.inr u→True) (by
  rintro n ⟨i,t⟩ g1 k;simp only at g1 k⊢;simp only[Zc4]
  refine tT (fun a=>?_) fun _=>.ret ⟨(fun r e=>by cases e),fun _ _=>trivial⟩
  refine tG (by omega) (tE (by simp;omega) fun c _ _=>tB (Q:=fun _=>True) (tC (fun _=>.ret trivial) fun _=>.ret trivial) fun t' _ _=>tC (fun _=>tG (by omega) (tE (by simp;omega) fun d _ _=>?_)) fun _=>?_)
  ·have hd:=hb d
   rw[wi64 (x:=((d.toNat:Nat):Int)) (by omega) (by omega)]
   refine tT (fun p=>?_) fun _=>.ret ⟨(fun r e=>by cases e;exact⟨by simp only;omega,by simp only;omega⟩),fun _ _=>trivial⟩
   rw[wi64 (by omega) (by omega)]
   exact tG (by omega) (tE (by omega) fun _ _ _=>.ret ⟨(fun r e=>by cases e;exact⟨by simp only;omega,by simp only;omega⟩),fun _ _=>trivial⟩)
  ·rw[w1 (by omega)]
   exact k (i+1,t') (by simp only;omega) (by simp only;omega)) FF (0,9) (Yv _) (by simp only[FF];omega)
 exact tL this (fun r hr=>.ret hr) fun _ _=>.ret ⟨by decide,by decide⟩
theorem Zn4(body:List UInt8)(h:body.length≤65536):Tot (ZfE FF body) fun _=>True:=by
 unfold ZfE
 refine tB (Zro body (by omega)) fun y _ hy=>tC (fun _=>.ret trivial) fun _=>?_
 have hk:=loopT (fun n (s:Nat×List Int)=>Zdw FF y n (s.1:Int) s.2) (fun s=>(s.1:Int)≤y.1∧s.2.length=9+2*s.1∧∀k,k∈s.2→k=1∨k=3) (fun s=>(y.1-s.1).toNat) (fun l=>l.length=9+2*y.1.toNat∧∀k,k∈l→k=1∨k=3) (by
  rintro n ⟨i,l⟩ ⟨g1,g2,g3⟩ k;simp only at g1 g2 g3 k⊢;simp only[Zdw]
  refine tT (fun a=>tG (by unfold LIM;omega) ?_) fun _=>.ret ⟨by omega,g3⟩
  rw[w1 (by omega)]
  refine k (i+1,_) ⟨by simp only;omega,by simp;omega,fun q hq=>?_⟩ (by simp only;omega)
  rcases Yy.1 hq with e|e
  ·exact g3 q e
  ·simpa using e) FF (0,[1,1,1,1,1,1,1,1,1]) ⟨by omega,by simp,by simp⟩ (by simp only[FF];omega)
 refine tB hk fun l _ hl=>?_
 have hl1:=hl.1
 refine tG (by unfold LIM;omega) (tG (by unfold LIM;omega) ?_)
 refine tB (Zh6 (l++[3]) (byI body) (by simp;omega) (fun k hk=>by
  rcases Yy.1 hk with e|e
  ·exact hl.2 k e
  ·exact .inr (by simpa using e)) (Znb body) (by rw[Ziq];omega)) fun z _ hz=>?_
 have hlen:z.1=0→z.2.length=10+2*y.1.toNat:=fun e=>by
  have:=Zin (hz.1 e).1
  rw[this];simp;omega
 refine tB (Q:=fun t=>t=false→z.1=0) (tC (fun _=>.ret (by simp)) fun e=>?_) fun t _ ht=>tC (fun _=>.ret trivial) fun e=>?_
 ·have e0:z.1=0:=by simpa using e
  have:=hlen e0
  exact tE (by simp;omega) fun _ _ _=>.ret fun _=>e0
 ·have hL:=hlen (ht e)
  unfold ZfT
  refine tB (Q:=fun _=>True) ?_ fun _ _ _=>.ret trivial
  refine tE (by simp;omega) fun _ _ _=>tE (by simp;omega) fun _ _ _=>tE (by simp;omega) fun _ _ _=>tE (by simp;omega) fun _ _ _=>tE (by simp;omega) fun _ _ _=>tE (by simp;omega) fun _ _ _=>tE (by simp;omega) fun _ _ _=>tE (by simp;omega) fun _ _ _=>?_
  rw[Ya,wi64 (by omega) (by omega)]
  refine tG (by omega) (tE (by omega) fun _ _ _=>tB (Q:=fun _=>True) ?_ fun _ _ _=>.ret trivial)
  have:=loopT (fun n (s:Nat×List Zab)=>Zc3 FF z.2 y.1 n (s.1:Int) s.2) (fun s=>(s.1:Int)≤y.1∧s.2.length=s.1) (fun s=>(y.1-s.1).toNat) (fun _=>True) (by
   rintro n ⟨i,l⟩ ⟨g1,g2⟩ k;simp only at g1 g2 k⊢;simp only[Zc3]
   refine tT (fun a=>?_) fun _=>.ret trivial
   rw[wi64 (x:=2*(i:Int)) (by omega) (by omega),wi64 (x:=9+2*(i:Int)) (by omega) (by omega),wi64 (x:=10+2*(i:Int)) (by omega) (by omega)]
   refine tG (by omega) (tE (by omega) fun _ _ _=>tG (by omega) (tE (by omega) fun _ _ _=>tG (by unfold LIM;omega) ?_))
   rw[w1 (by omega)]
   exact k (i+1,_) ⟨by simp only;omega,by simp;omega⟩ (by simp only;omega)) FF (0,[]) ⟨by omega,rfl⟩ (by simp only[FF];omega)
  exact this
theorem ZmA(hcf:CF conf)(hb:b≤2000000)(hG:GI conf b c gs last l n7 n8 n9 n10):Tot (ZbN FF a c br gs last tb l n7 n8 n9 n10 m) (GIA conf (b+4097)):=by
 have hG':=hG.mono (Wl b 4097)
 unfold ZbN
 refine tB (ZkU a.Id last hG.pk) fun y _ hy=>?_
 obtain⟨p,ok,last2,pk⟩:=y
 obtain⟨h1,h3, -⟩:=hy
 simp only at h1 h3⊢
 have h1':=h1.mono (Wl b 4097)
 refine tC (fun e=>.ret (hG'.pkt h1')) fun e=>?_
 refine tB (Zn4 p.Body h3) fun u _ _=>?_
 rcases Zfb c br gs last2 tb l n7 n8 n9 pk m p.To with ⟨e,he,h⟩|⟨u2,hu,h⟩
 ·refine tO h ?_
  simp only[Sum.elim_inl]
  refine tB (Q:=fun t=>t=true) (tC (fun _=>.ret rfl) fun _=>.ret (by simpa using he)) fun t _ ht=>?_
  subst ht;exact .ret (hG'.pkt h1')
 ·refine tO h ?_
  simp only[Sum.elim_inr]
  have hN:=(hG.get hu).2
  refine tB (Q:=fun _=>True) (tC (fun _=>.ret trivial) fun _=>.ret trivial) fun t _ _=>tC (fun _=>?_) fun _=>?_
  ·rw[hu]
   exact .ret ((hG'.pkt h1').put (by rw[hu];rfl) hN)
  ·refine tB (Zoj u2.raft ⟨hN.2.2.1,by rw[hN.2.2.2.1];exact hcf.ck,hN.2.2.2.2.2⟩ u.1) fun y _ hy=>?_
   obtain⟨h,v,n,k,out,rfl,hr⟩:=hy
   rw[hN.2.2.2.1]at hr
   refine tB (Zlf conf hcf p.To _ _ a c br gs p.To last2 tb l n7 n8 n9 u2.raft u2.count u2.sum pk m u2.total u2.kept u2.files u2.waits u2.file u2.last u2.recs b hb (hG.pkt h1) rfl (by rw[hu];rfl) hN (hr.small hcf.ok.n7 _ _) hr.cf (by have:=hr.ol;show out.length≤_;omega) hr.om hr.oa) fun o _ ho=>?_
   rcases o with z|z
   ·have:=ho.1 z rfl
    exact .ret this.1
   ·have:=ho.2 z rfl
    exact .ret this.1
theorem Zp9(h:PK conf b last n10):Tot (ZcW FF a c br gs last tb l n7 n8 n9 n10 m) fun y=>PK conf b y.2.1 y.2.2:=by
 have hl:=h.le
 unfold ZcW ZeG
 refine tB (Q:=fun y:Bool×Int×List Zae=>PK conf b y.2.1 y.2.2) ?_ fun y _ hy=>tC (fun e=>.ret hy) fun _=>.ret hy
 exact tB (Zj6 a.Id last (by omega)) fun i _ hi=>tT (fun _=>.ret h) fun q=>tB (Zmc i last (by omega) hi.1 h) fun y _ hy=>.ret hy.2
theorem Zm6(hb:b≤2000000)(h:PK conf b last n10):Tot (Zcu FF a c br gs last tb l n7 n8 n9 n10 m) fun y=>PK conf (b+1) y.2.1 y.2.2:=by
 have hl:=h.le
 unfold Zcu ZdU
 refine tB (Q:=fun y:Int×Int×Int×List Zae=>PK conf (b+1) y.2.2.1 y.2.2.2) ?_ fun y _ hy=>.ret hy
 exact tB (Zj6 a.Id last (by omega)) fun i _ hi=>tT (fun _=>.ret (h.mono (Wl ..))) fun q=>tG (by omega) (tE (by omega) fun _ _ _=>tE (by omega) fun p _ hp=>tB (Zqs p last n10 m h (by omega) ⟨(h.pk p hp).1,(h.pk p hp).2.1,(h.pk p hp).2.2.1⟩) fun y _ hy=>.ret hy)
theorem Zjm(hcf:CF conf)(hb:b≤2000000)(hG:GI conf b c gs last l n7 n8 n9 n10):Tot (Zcb FF a c br gs last tb l n7 n8 n9 n10 m) (AR conf a gs l b):=by
 have hG':=hG.mono (Wl b 4097)
 unfold Zcb
 rcases Zfb c br gs last tb l n7 n8 n9 n10 m a.Node with ⟨e,he,h⟩|⟨u,hu,h⟩
 ·refine tO h ?_
  simp only[Sum.elim_inl]
  exact tC (fun _=>.ret ⟨hG',fun _ C h=>⟨h,rfl⟩⟩) fun q=>absurd (by simpa using q) he
 ·refine tO h ?_
  simp only[Sum.elim_inr,show((0:Int) != 0)=false from rfl,Y7]
  have hN:=(hG.get hu).2
  refine tB (ZmR u.raft ⟨hN.2.2.1,by rw[hN.2.2.2.1];exact hcf.ck,hN.2.2.2.2.2⟩ a.Data) fun y _ hy=>?_
  obtain⟨h,v,n,k,out,i,e,rfl,hr,hcm⟩:=hy
  rw[hN.2.2.2.1]at hr hcm;simp only
  refine tC (fun _=>?_) fun _=>?_
  ·simp only[hu,Option.isSome_some,Y4]
   rw[Zf0 hu]
   exact .ret ⟨hG',fun _ C h=>⟨h,rfl⟩⟩
  ·refine tB (Zlf conf hcf a.Node _ _ a c br gs a.Node last tb l n7 n8 n9 u.raft u.count u.sum n10 m u.total u.kept u.files u.waits u.file u.last u.recs b hb hG rfl (by rw[hu];rfl) hN (hr.small hcf.ok.n7 _ _) hr.cf (by have:=hr.ol;omega) hr.om hr.oa) fun o _ ho=>?_
   rcases o with z|z
   ·have:=ho.1 z rfl
    exact .ret ⟨this.1,fun h2 C hC=>⟨by rw[←hC u hu,←hcm h2];exact this.2.1,this.2.2 (hcm h2)⟩⟩
   ·have:=ho.2 z rfl
    exact .ret ⟨this.1,fun h2 C hC=>⟨by rw[←hC u hu,←hcm h2];exact this.2.1,this.2.2 (hcm h2)⟩⟩
theorem Zox(hG:GI conf b c gs last l n7 n8 n9 n10):Tot (ZcA FF a c br gs last tb l n7 n8 n9 n10 m) fun y=>GI conf b c y.2 last l n7 n8 n9 n10:=by
 unfold ZcA
 rcases Zfb c br gs last tb l n7 n8 n9 n10 m a.Node with ⟨e,he,h⟩|⟨u,hu,h⟩
 ·refine tO h ?_
  simp only[Sum.elim_inl]
  refine tB (Q:=fun _=>True) (tC (fun q=>absurd (by simpa using q) he) fun _=>.ret trivial) fun _ _ _=>.ret hG
 ·refine tO h ?_
  simp only[Sum.elim_inr,show((0:Int)==0)=true from rfl,Y4]
  have hN:=(hG.get hu).2
  refine tB (ZlD a.Keep a.Torn u.raft u.count u.sum u.total u.kept u.files u.waits u.file u.last u.recs hN.1.di hN.1.wi) fun q _ hq=>?_
  rw[hu]
  exact .ret (hG.put (by rw[hu];rfl) (dn conf hq ..))
theorem ZlW(hcf:CF conf)(id:Int)(hid:id∈conf)(hk:Option.isSome (mget id gs)=true)(rf:Zad)(x y t:Int)(fs:Fs)(w:List Zaa)(hD:DI t fs)(hW:WI fs w)(lst:Int)(tb2:Bool):
 Tot (Za3 FF id conf br rf x y gs id lst tb2 l n7 n8 n9 t n10 m fs w) fun y=>∃x,NdK conf x∧y.2=mput id x gs:=by
 unfold Za3
 refine tB (ZoZ id conf t fs w hcf hid hD hW) fun o _ ho=>?_
 simp only[hk,Y4]
 rcases o with y|y
 ·obtain⟨h1,h2⟩:=ho.1 y rfl
  simp only[Sum.elim_inl]
  refine tC (fun _=>.ret ⟨_,?_,rfl⟩) fun e=>absurd (show y.2.1=0 by simpa using e) (by rcases h1 with q|q<;>rw[q]<;>decide)
  exact⟨h2.1,h2.2⟩
 ·obtain⟨z,rfl,h1,h2,h3,h4,h5,h6,h7⟩:=ho.2 y rfl
  simp only[Sum.elim_inr,h1,show((0:Int) != 0)=false from rfl,Y7]
  refine tB (ZkG _ (by have:=h4.ok.sn;omega)) fun q _ hq=>.ret ⟨_,?_,rfl⟩
  exact⟨h2,h3,h4,h5,hq,fun k=>by rw[h7]at k;cases k⟩
theorem ZlZ(hcf:CF conf)(hG:GI conf b c gs last l n7 n8 n9 n10):Tot (Zca FF a c br gs last tb l n7 n8 n9 n10 m) fun y=>GI conf b c y.2 last l n7 n8 n9 n10:=by
 unfold Zca
 cases h:mget a.Node gs with
 |none=>exact .ret hG
 |some x=>
  cases x with
  |inl d=>
   simp only[Option.elim_some,Sum.elim_inl]
   have hcc:=hG.cc
   rw[show Za3 FF a.Node c=Za3 FF a.Node conf by rw[hcc]]
   refine tB (ZlW hcf a.Node (hG.get h).1 (by rw[h];rfl) d.raft d.count d.sum d.total d.files d.waits (hG.get h).2.1 (hG.get h).2.2 last tb) fun y _ hy=>?_
   obtain⟨x,hx,e⟩:=hy
   exact .ret (by simp only[e];exact hG.put (by rw[h];rfl) hx)
  |inr u=>
   simp only[Option.elim_some,Sum.elim_inr,Option.isSome_some,Y4];rw[Zf0 h];exact .ret hG
theorem Zpj(hcf:CF conf)(hG:GI conf b c gs last l n7 n8 n9 n10):Tot (ZcU FF a c br gs last tb l n7 n8 n9 n10 m) fun y=>GI conf b c y.2 last l n7 n8 n9 n10:=by
 unfold ZcU
 rcases Zfb c br gs last tb l n7 n8 n9 n10 m a.Node with ⟨e,he,h⟩|⟨u,hu,h⟩
 ·refine tO h ?_
  simp only[Sum.elim_inl]
  exact tC (fun _=>.ret hG) fun q=>absurd (by simpa using q) he
 ·refine tO h ?_
  simp only[Sum.elim_inr,show((0:Int) != 0)=false from rfl,Y7]
  obtain⟨hw,hkk,hrk,hrf,hct,hoa⟩:=(hG.get hu).2
  have hp:∀{x:group_node},NdK conf x→GI conf b c (mput a.Node x gs) last l n7 n8 n9 n10:=fun hx=>hG.put (by rw[hu];rfl) hx
  refine tB (ZqT u.raft u.count u.sum u.total u.kept u.files u.waits u.file u.last u.recs hct) fun sn _ _=>tB (Zm8 u.raft ⟨hrk,by rw[hrf];exact hcf.ck,hoa⟩ u.raft.Commit sn) fun y _ hy=>?_
  obtain⟨h,v,n,k,e,rfl,hr⟩:=hy
  rw[hrf]at hr;simp only[hu,Option.isSome_some,Y4]
  refine tB (ZlP _ u.kept u.file u.last u.recs u.total u.files u.waits hw hkk (hr.small hcf.ok.n7 h.Left h.Wait) (by show∀x,x∈h.Conf→_;rw[hr.cf];exact hcf.lt)) fun y0 _ h0=>?_
  obtain⟨e0,k0,f0,x0,y0,t0,fs0,w0⟩:=y0
  obtain⟨hw0,hk0,hr0⟩:=h0
  simp only at hw0 hk0 hr0⊢
  refine tC (fun _=>tB (ZjL _ _ _ t0 k0 fs0 w0 f0 x0 y0 hw0.di hw0.wi) fun q _ hq=>.ret (hp (dn conf hq.2 ..))) fun e=>?_
  have hR:=hr0 (by simpa using e)
  obtain⟨hse,hsw⟩:=Zno k0 f0 x0 y0 t0 fs0 w0 hw0
  refine tO hse (tB (ZlY k0 f0 x0 y0 t0 fs0 (fgt f0 w0) hsw hk0) fun p _ hpk=>?_)
  refine tC (fun _=>tB (ZjL _ _ _ _ k0 _ _ _ _ _ hpk.2.1 hpk.2.2) fun q _ hq=>.ret (hp (dn conf hq.2 ..))) fun e2=>.ret (hp ⟨hpk.1 (by simpa using e2),hk0,hR,hr.cf,hct,hr.oa⟩)
abbrev DoT:=Int×(List Int)×Bool×(List (Int×group_node))×Int×Bool×(List (mesh_pair×Int))×(List Zab)×(List Int)×(List Int)×(List Zai)×(List Zae)
def GID(conf:List Int)(b:Nat)(y:DoT):Prop:=GI conf b y.2.1 y.2.2.2.1 y.2.2.2.2.1 y.2.2.2.2.2.2.2.1 y.2.2.2.2.2.2.2.2.1 y.2.2.2.2.2.2.2.2.2.1 y.2.2.2.2.2.2.2.2.2.2.1 y.2.2.2.2.2.2.2.2.2.2.2∧y.2.2.2.2.2.2.1.length≤b
theorem Zti(hcf:CF conf)(hb:b≤2000000)(hG:GI conf b c gs last l n7 n8 n9 n10)(hm:m.length≤b):Tot (Zar FF a c br gs last tb l n7 n8 n9 n10 m) (GID conf (b+4097)):=by
 have hle:=Wl b 4097
 have hG':=hG.mono hle
 have hm':m.length≤b+4097:=by omega
 unfold Zar Zfu;simp only[Y0]
 refine tC (fun _=>tB (ZlS hcf hb hG) fun y _ hy=>.ret ⟨hy.1,hm'⟩) fun _=>?_
 refine tC (fun _=>tB (ZmA hcf hb hG) fun y _ hy=>.ret ⟨hy,hm'⟩) fun _=>?_
 refine tC (fun _=>tB (Zp9 hG.pk) fun y _ hy=>.ret ⟨hG'.pkt (hy.mono hle),hm'⟩) fun _=>?_
 refine tC (fun _=>tB (Zm6 hb hG.pk) fun y _ hy=>.ret ⟨hG'.pkt (hy.mono (by omega)),hm'⟩) fun _=>?_
 refine tC (fun _=>tB (Zjm hcf hb hG) fun y _ hy=>.ret ⟨hy.1,hm'⟩) fun _=>?_
 refine tC (fun _=>tB (Zox hG) fun y _ hy=>.ret ⟨hy.mono hle,hm'⟩) fun _=>?_
 refine tC (fun _=>tB (ZlZ hcf hG) fun y _ hy=>.ret ⟨hy.mono hle,hm'⟩) fun _=>?_
 refine tC (fun _=>?_) fun _=>?_
 ·unfold Zdc Zd6 ZgZ
  simp only[Y0]
  refine tB (Q:=fun y:Int×List (mesh_pair×Int)=>y.2.length≤b+4097) (tB (Q:=fun y:List (mesh_pair×Int)=>y.length≤b+4097) (tG (by unfold LIM;omega) (.ret (by have:=ZiE (mesh_pair.mk (if a.Other<a.Node then a.Other else a.Node) (if a.Other>a.Node then a.Other else a.Node)) (1:Int) m;omega))) fun y _ hy=>.ret hy) fun y _ hy=>.ret ⟨hG',hy⟩
 refine tC (fun _=>?_) fun _=>?_
 ·unfold ZdX ZeF ZgZ
  simp only[Y0];exact .ret ⟨hG',YV (Zmf _ m) hm'⟩
 refine tC (fun _=>tB (Zpj hcf hG) fun y _ hy=>.ret ⟨hy.mono hle,hm'⟩) fun _=>.ret ⟨hG',hm'⟩
end
end Go.T
