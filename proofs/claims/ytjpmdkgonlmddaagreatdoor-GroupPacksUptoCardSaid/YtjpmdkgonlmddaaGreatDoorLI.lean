import Derived.Test.YtjpmdkgonlmddaaGreatDoorLH
set_option linter.defProp false
set_option linter.unusedVariables false
set_option maxRecDepth 20000
namespace Go.T
open Go Go.Ab
section
variable {S:Lg→aj→Prop}{ag:aa}{w:Wd}{h:cP}{v nx mt:aa}{out:List cj}
def uW(i:TC h.Trail):qV FF h v nx mt out=some (bQ h.Trail):=by
 obtain⟨x,j⟩:=I8 i.ok.b0;unfold qV;rw[i.oz j];rfl
def Ml(q:CO ag)(hn:HN ag h)(j:TC h.Trail)(h1:nx.length=ag.length)(h2:mt.length=ag.length){k:Nat}(o:ag[k]? =some h.Id):
 yz FF h v nx mt out=some (nx.set k (bQ h.Trail+1),mt.set k (bQ h.Trail)):=by
 have h7:=q.ok.n7;have b0:=j.ok.b0;have bl:=j.ok.last;have z:=(Ys.1 o).1;obtain⟨i,e,i1,i2,u,y⟩:=JO ag h.Id (by omega)
 have p:i=(k:Int):=by
  have:=y (YO o);have:=q.ok.inj (u this) o;omega
 subst p;unfold yz;rw[hn.cf,e,Y1,uW j,Y1,Y1,dj (x:=bQ h.Trail+1) (by unfold bQ;omega) (by unfold bQ;omega)]
 simp only[Yf];rw[Y3 (show k<mt.length by omega),Y3 (show k<nx.length by omega)]
 simp
def ZF(A:CO ag)(hn:HN ag h)(C:TC h.Trail)(F:mt.length=ag.length):
 dh (ve FF h v nx mt out) λ g=>∃c,nF mt ((ag.length-1)/2) c∧g=if h.ah<c∧gp h.Trail c=some h.Term then cP.mk h.Id h.bg h.Term h.bn h.bE h.bo h.Trail h.bj c h.Left h.bK else h:=by
 have h7:=A.ok.n7;unfold ve;have:=dM (λ n (s:Nat×List da)=>yt FF h mt n (s.1:Int) s.2) (λ s=>s.1≤ag.length∧s.2=(qa ag mt).take s.1) (λ s=>ag.length-s.1) (λ r=>r=qa ag mt) (by
  rintro n ⟨i,m⟩ ⟨E,p⟩ k;simp only at E p k⊢;have hl:(qa ag mt).length=ag.length:=by unfold qa;rw[List.length_zipWith];omega
  simp only[yt];rw[hn.cf];refine cq (λ q=>?_) λ q=>.ret (by rw[p,Yk (by omega)])
  refine bV (by omega) (cM (by simp;omega) λ y B _=>bV (by omega) (cM (by simp;omega) λ z u _=>cM (by simp;omega) λ z2 o _=>bV (by rw[p,Y9];unfold bI;omega) ?_))
  rw[u]at o;cases o;rw[Yf]at B u;rw[w1 (by omega)]
  refine k (i+1,_) ⟨by simp only;omega,?_⟩ (by simp only;omega)
  simp only;rw[W8,p];unfold qa;rw[List.getElem?_zipWith,B,u];rfl) FF (0,[]) ⟨YL _,by simp⟩ (by simp only[FF];omega)
 obtain⟨r,e,rfl⟩:=this;have H:yt FF h mt FF 0 []=some (qa ag mt):=e;rw[H,Y1,hn.cf];refine bh (ZnE A.ck A.ok F) λ c _ j=>?_;rw[C.kB,Y1]
 cases hx:gp h.Trail c with
 |none=>
  simp only[Vx,Y7,Y1];exact .ret ⟨c,j,by rw[if_neg (λ q=>by rw[hx]at q;cases q.2)]⟩
 |some x=>
  simp only[YS,Y4,YJ];by_cases q:h.ah<c
  ·rw[Y2 q,Y4,Y1];by_cases z:x=h.Term
   ·rw[show(x==h.Term)=true by simpa using z,Y4]
    exact .ret ⟨c,j,by rw[if_pos ⟨q,by rw[hx,z]⟩]⟩
   ·rw[show(x==h.Term)=false by simpa using z,Y7]
    exact .ret ⟨c,j,by rw[if_neg (λ k=>z (W5 (hx.symm.trans k.2)))]⟩
  ·rw[Ye q,Y7,Y1,Y7];exact .ret ⟨c,j,by rw[if_neg (λ k=>q k.1)]⟩
def Zpn(q:CO ag)(h2:mt.length=ag.length){c:Int}(z:nF mt ((ag.length-1)/2) c):∃A,Qm ag A∧∀i∈A,∃(k:Nat) (x:Int),ag[k]? =some i∧mt[k]? =some x∧c≤x:=by
 have h1:=q.ok.n1;refine⟨((ag.zip mt).filter λ p=>decide (c≤p.2)).map (·.1),⟨?_,?_,?_⟩,?_⟩
 ·have:(((ag.zip mt).filter λ p=>decide (c≤p.2)).map (·.1)).Sublist ((ag.zip mt).map (·.1)):=List.Sublist.map _ List.filter_sublist;rw[List.map_fst_zip (by omega)]at this
  exact q.ok.nd.sublist this
 ·intro x C;obtain⟨p,o,rfl⟩:=W0.1 C;exact(List.of_mem_zip (Wl.1 o).1).1
 ·have e:((ag.zip mt).filter λ p=>decide (c≤p.2)).length=mt.countP λ y=>decide (c≤y):=by
   have j:mt=(ag.zip mt).map (·.2):=(List.map_snd_zip (by omega)).symm
   rw[←List.countP_eq_length_filter]
   conv=>rhs;rw[j]
   rw[List.countP_map];rfl
  have F:=List.length_eq_countP_add_countP (λ y=>decide (y<c)) (l:=mt);have H:(mt.countP λ y=>decide ¬(decide (y<c))=true)=mt.countP λ y=>decide (c≤y):=List.countP_congr λ y _=>by simp only[YB];omega
  rw[Ya,e];have:=z.1;rw[H]at F;omega
 ·intro i E;obtain⟨p,o,rfl⟩:=W0.1 E;obtain⟨j,u⟩:=Wl.1 o;obtain⟨k,B,rfl⟩:=Wc j;rw[List.length_zip]at B;refine⟨k,mt[k]'(by omega),?_,Y3 _,?_⟩
  ·rw[Y3 (by omega),List.getElem_zip]
  ·rw[List.getElem_zip]at u;exact YM u
end
def hC(h:cP)(c:Int):cP:=cP.mk h.Id h.bg h.Term h.bn h.bE h.bo h.Trail h.bj c h.Left h.bK
structure FR(S:Lg→aj→Prop)(ag:aa)(w:Wd)(i:Int)(t:ca)(s:aj)(c0:Int)(h:cP)(v nx mt:aa)(out:List cj):Prop where
 ex:∃w',Ext i w w'∧eC ag w'∧HO S ag w' h∧kY ag w' h v nx mt∧(∀m∈out,ff S ag w' i m)∧(w'.G=w.G∨(w'.G.length:Int)=h.ah)
 cp:CP S ag w i t s h.Term h.bn h.Trail h.bj
 cf:h.bg=ag∧h.Trail.Entries.length≤10000∧c0≤h.ah
 id:h.Id=i
 vl:v.length≤100
 nl:nx.length≤7
 ml:mt.length≤7
 ol:out.length≤200
section
variable {S:Lg→aj→Prop}{ag:aa}{w w1:Wd}{h:cP}{v nx mt:aa}{out:List cj}
def HN.cl(hn:HN ag h):h.bg=ag∧h.Trail.Entries.length≤10000∧h.ah≤h.ah:=⟨hn.cf,by have:=hn.tc.ok.len;omega,YX _⟩
def CP.after{i:Int}{t:ca}{s:aj}{T V:Int}{o:ca}{p:aj}(e:Ext i w w1)(x:w1.G=w.G)(c:CP S ag w1 i t s T V o p):CP S ag w i t s T V o p:=by
 have j:∀{P:Wd→Prop},(∃w',Ext i w1 w'∧eC ag w'∧w'.G=w1.G∧P w')→∃w',Ext i w w'∧eC ag w'∧w'.G=w.G∧P w':=λ⟨w',a,b,c,d⟩=>⟨w',e.trans a,b,by rw[c,x],d⟩
 exact⟨j c.p1,λ a b d q h1 u=>j (c.p2 a b d q h1 u),λ a=>⟨(c.p3 a).1,j (c.p3 a).2⟩⟩
def FR.after{i c0:Int}{t:ca}{s:aj}(e:Ext i w w1)(j:w1.G=w.G)(c:FR S ag w1 i t s c0 h v nx mt out):FR S ag w i t s c0 h v nx mt out:=by
 obtain⟨w',a,b,d⟩:=c.ex;rw[j]at d;exact⟨⟨w',e.trans a,b,d⟩,c.cp.after e j,c.cf,c.id,c.vl,c.nl,c.ml,c.ol⟩
def FR.low{i c0 c1:Int}{t:ca}{s:aj}(c:FR S ag w i t s c0 h v nx mt out)(e:c1≤c0):FR S ag w i t s c1 h v nx mt out:=⟨c.ex,c.cp,⟨c.cf.1,c.cf.2.1,Vr e c.cf.2.2⟩,c.id,c.vl,c.nl,c.ml,c.ol⟩
def CP.same{i T V:Int}{t:ca}{s:aj}{w':Wd}(e:Ext i w w')(j:eC ag w')(o:w'.G=w.G)(d:jI S ag w' i T V t s):CP S ag w i t s T V t s:=
 ⟨⟨w',e,j,o,d⟩,λ _ _ _ q h1 p=>⟨w',e,j,o,by
  have:=p t.Entries.length (Yg _) (Yg _) rfl;rw[Yk (by omega)];exact d⟩,λ q=>absurd ⟨rfl,rfl,rfl⟩ q⟩
def Jb(M:CO ag)(hn:HN ag h)(H:eC ag w)(o:HO S ag w h)(r:lM ag w h nx mt):dh (ve FF h v nx mt out) λ g=>∃(w':Wd) (c:Int),g=hC h c∧Ext h.Id w w'∧eC ag w'∧(w'.G=w.G∨(w'.G.length:Int)=c)∧HO S ag w' g∧lM ag w' g nx mt∧KU ag g mt∧(KU ag h mt→c=h.ah)∧h.ah≤c:=by
 refine(ZF M hn hn.tc r.ml).mono λ g hg=>?_;obtain⟨c,B,e⟩:=hg
 by_cases q:h.ah<c∧gp h.Trail c=some h.Term
 ·rw[if_pos q]at e;obtain⟨U,C⟩:=q;have b0:=o.d.b0;have c0:=o.c0;have bG:=o.d.bG;have Q:=tf C;obtain⟨a,ha,F⟩:∃a,h.Trail.Entries[(c-h.Trail.an-1).toNat]? =some a∧a.Term=h.Term:=by
   unfold gp at C;rwa [if_neg (by omega),if_pos (by omega),Yq]at C
  obtain⟨A,hA,hq⟩:=Zpn M r.ml B;have u:cm ag w.g h.Term (c-1).toNat:=by
   refine⟨⟨a,?_,F⟩,A,hA,λ i V=>?_⟩
   ·rw[r.lg,show(c-1).toNat=h.Trail.an.toNat+(c-h.Trail.an-1).toNat by omega,B7 b0 bG];exact ha
   ·obtain⟨k,x,h1,h2,h3⟩:=hq i V;obtain⟨y,X⟩:∃y,nx[k]? =some y:=⟨_,Y3 (by rw[r.nl];exact(Ys.1 h1).1)⟩
    have:=(r.nm k i x y h1 h2 X).2.1;omega
  obtain⟨w',e1,e2,Y,E,e5,e6⟩:=H.xu (i:=h.Id) u;have O:=o.lG;have J:(w.g.L h.Term).take c.toNat<+:w'.G:=by rw[show c.toNat=(c-1).toNat+1 by omega];exact e6
  have T:((w.g.L h.Term).take c.toNat).length=c.toNat:=by rw[Y9,r.lg];omega
  have z:dW w'.G h.Trail=dW w.G h.Trail:=e1.lg bG;have hle:=J.length_le;refine⟨w',c,e,e1,e2,e5.imp id λ k=>by omega,?_,?_,?_,λ k=>absurd C (k c B U),by omega⟩
  ·rw[e];refine⟨o.d.r9 e1 (by rw[Y]) (by rw[E]),by show h.Trail.an≤c;omega,Q.2,by show c≤(w'.G.length:Int);omega,?_,.inr ⟨h.Term,(c-1).toNat,YX _,by show c≤_;omega,e1.cm u⟩⟩
   show(dW w'.G h.Trail).take c.toNat=w'.G.take c.toNat;have:=List.prefix_iff_eq_take.1 J;rw[T]at this;rw[z,←r.lg];exact this
  ·rw[e];exact⟨by rw[E];exact r.el,by rw[E];show w.g.L h.Term=dW w'.G h.Trail;rw[z];exact r.lg,r.nl,r.ml,by rw[E];exact r.nm,r.ow,r.t1⟩
  ·rw[e];intro R p j;rw[B.uniq p]at j;exact absurd j (Int.lt_irrefl _)
 ·rw[if_neg q]at e;subst e;exact⟨w,g.ah,rfl,Ext.refl ..,H,.inl rfl,o,r,λ R p j Z=>q (by rw[B.uniq p];exact⟨j,Z⟩),λ _=>rfl,YX _⟩
def IZ(G:Lg)(t:ca)(e:bx):dW G (ca.mk t.an t.au (t.Entries++[e]))=dW G t++[e]:=by unfold dW;simp
def Ju(t:ca)(e:bx):bQ (ca.mk t.an t.au (t.Entries++[e]))=bQ t+1:=by unfold bQ;simp;omega
def L4(H:CO ag)(hn:HN ag h)(F:eC ag w)(o:HO S ag w h)(B:w.g.el h.Term=h.Id)(A:w.g.L h.Term=dW w.G h.Trail)(h1:1≤h.Term)(a:bx)(E:a.Term=h.Term):
 ∃w',Ext h.Id w w'∧eC ag w'∧w'.G=w.G∧HO S ag w' (cP.mk h.Id h.bg h.Term h.bn h.bE h.bo (ca.mk h.Trail.an h.Trail.au (h.Trail.Entries++[a])) h.bj h.ah h.Left h.bK)∧w'.g.el h.Term=h.Id∧w'.g.L h.Term=dW w'.G (ca.mk h.Trail.an h.Trail.au (h.Trail.Entries++[a])):=by
 have C:=H.ps _ hn.id;have j:(w.N h.Id).tm=h.Term:=by rw[o.d.n]
 have x:(w.N h.Id).lg=dW w.G h.Trail:=by rw[o.d.n]
 obtain⟨w',e1,J,u,z,y⟩:=F.app (i:=h.Id) a (by omega) (by rw[j];exact B) (by rw[j,x,A]) (by rw[j];exact E) (by omega)
 rw[j]at z y;rw[x]at z;have bG:=o.d.bG;have c1:=o.c1;have cG:=o.cG;have hl:=o.lG;refine⟨w',e1,J,u,⟨⟨?_,?_,o.d.b0,by rw[u];exact bG,by rw[u];exact o.d.bt,o.d.ck.imp id λ⟨T1,m,p,q,r⟩=>⟨T1,m,p,q,e1.cm r⟩,by rw[u];exact o.d.sn⟩,o.c0,?_,by rw[u];exact cG,?_,o.ck.imp id λ⟨T1,m,p,q,r⟩=>⟨T1,m,p,q,e1.cm r⟩⟩,by rw[y];exact B,?_⟩
 ·show w'.N h.Id=⟨h.Term,dW w'.G _⟩;rw[z,u,IZ]
 ·show w'.g.vt h.Id h.Term=h.bn;rw[y];exact o.d.vt
 ·show h.ah≤bQ (ca.mk _ _ _);rw[Ju];omega
 ·show(dW w'.G (ca.mk _ _ _)).take h.ah.toNat=w'.G.take h.ah.toNat;rw[u,IZ,W4 (by omega)];exact o.cl
 ·rw[y,u,IZ,show(w.g.app h.Term a).L h.Term=w.g.L h.Term++[a]from qe ..,A]
def CP.app{i T V:Int}{t:ca}{s:aj}{w0 w':Wd}{a:bx}(e0:Ext i w w0)(j:eC ag w0)(o:w0.G=w.G)(p:jI S ag w0 i T V t s)(e:Ext i w w')(u:eC ag w')(y:w'.G=w.G)(d:jI S ag w' i T V (ca.mk t.an t.au (t.Entries++[a])) s):CP S ag w i t s T V (ca.mk t.an t.au (t.Entries++[a])) s:=
 ⟨⟨w0,e0,j,o,p⟩,λ _ _ _ q h1 x=>by
  have h3:=x t.Entries.length (Yg _) (by simp) (by simp)
  simp only[Y8,W9]at h1;by_cases k:q=t.Entries.length
  ·refine⟨w0,e0,j,o,?_⟩;rw[k];simp only[List.take_left];exact p
  ·refine⟨w',e,u,y,?_⟩;rw[Yk (by simp;omega)];exact d,λ q=>absurd ⟨rfl,rfl,rfl⟩ q⟩
end
section
variable {S:Lg→aj→Prop}{ag:aa}{w w1:Wd}{h:cP}{v nx mt:aa}{out:List cj}
def ff.ext{i j:Int}{m:cj}(h:ff S ag w i m)(e:Ext j w w1):ff S ag w1 i m:=⟨h.ok.ext e,h.mb,h.fr,h.dst,h.ne⟩
def Mx(B:eC ag w)(o:HO S ag w h)(y:w.g.L h.Term=dW w.G h.Trail)(C:w.g.el h.Term=h.Id):∃w',Ext h.Id w w'∧eC ag w'∧w'.G=w.G∧HO S ag w' h∧w'.g.L h.Term=dW w'.G h.Trail∧w'.g.el h.Term=h.Id∧bQ h.Trail≤(w'.g.ac h.Id h.Term:Int):=by
 have j:(w.N h.Id).tm=h.Term:=by rw[o.d.n]
 have z:(w.N h.Id).lg=dW w.G h.Trail:=by rw[o.d.n]
 have hl:=o.lG;obtain⟨w',e1,E,u,F,x,A⟩:=B.sX (i:=h.Id) (n:=(w.g.L h.Term).length) (by rw[j];exact Yg _) (by rw[j,W7,z,y];exact YH _)
 rw[j]at A;refine⟨w',e1,E,u,⟨o.d.r9 e1 (by rw[F]) (by rw[x];rfl),o.c0,o.c1,by rw[u];exact o.cG,by rw[u];exact o.cl,o.ck.imp id λ⟨T1,m,p,q,r⟩=>⟨T1,m,p,q,e1.cm r⟩⟩,by rw[x,u];exact y,by rw[x];exact C,?_⟩
 rw[y]at A;omega
def uN{l:aa}{k j:Nat}{a x:Int}(h:(l.set k a)[j]? =some x):j=k∧x=a∨j≠k∧l[j]? =some x:=by
 rw[U2]at h;split at h
 ·rename_i e;split at h
  ·cases h;exact .inl ⟨e.symm,rfl⟩
  ·cases h
 ·rename_i e;exact .inr ⟨λ q=>e q.symm,h⟩
def MM(F:CO ag)(hn:HN ag h)(hw:eC ag w)(o:HO S ag w h)(hd:w.g.D h.Term h.Id=some (dW w.G h.Trail))(he:w.g.el h.Term≠h.Id){V:aa}(hV:Qm ag V)(hv:∀x∈V,w.g.vt x h.Term=h.Id)(h1:1≤h.Term)(ho:out.length≤100)(hm:∀m∈out,ff S ag w h.Id m):
 dh (zY FF h v nx mt out) λ r=>FR S ag w h.Id h.Trail h.bj h.ah r.1 r.2.1 r.2.2.1 r.2.2.2.1 r.2.2.2.2:=by
 have h7:=F.ok.n7;have Hz:=F.ok.n1;have hid:=F.ps _ hn.id;have b0:=o.d.b0;have tb:=hn.tc.ok.last;have C:(w.N h.Id).tm=h.Term:=by rw[o.d.n]
 have U:(w.N h.Id).lg=dW w.G h.Trail:=by rw[o.d.n]
 obtain⟨k,yX,M⟩:∃k<ag.length,ag[k]? =some h.Id:=by
  obtain⟨k,M,e⟩:=Wc hn.id;exact⟨k,M,by rw[Y3 M,e]⟩
 obtain⟨w1,e1,k1,O,n1,Z⟩:=hw.gb (i:=h.Id) (by omega) (by rw[C];exact he) (by rw[C,U];exact hd) hV (by rw[C];exact hv)
 rw[C,U]at Z;have o1:HO S ag w1 (cP.mk h.Id h.bg h.Term h.bn 2 h.Id h.Trail h.bj h.ah 2 h.bK):=⟨o.d.r9 e1 (by rw[n1]) (by rw[Z];rfl),o.c0,o.c1,by rw[O];exact o.cG,by rw[O];exact o.cl,o.ck.imp id λ⟨T1,m,p,q,r⟩=>⟨T1,m,p,q,e1.cm r⟩⟩
 have T:w1.g.el h.Term=h.Id:=by rw[Z];exact qe ..
 have L1:w1.g.L h.Term=dW w1.G h.Trail:=by rw[Z,O];exact qe ..
 unfold zY;refine bJ (uW hn.tc) ?_;rw[Ya,hn.cf,dj (x:=bQ h.Trail+1) (by unfold bQ;omega) (by unfold bQ;omega)]
 refine bJ (Zpa (bQ h.Trail+1) ag.length Hz h7) (bV (by omega) (bV (by unfold bI;omega) ?_))
 have rest:∀(t:ca) (A:Wd),TC t→Ext h.Id w A→eC ag A→A.G=w.G→HO S ag A (cP.mk h.Id h.bg h.Term h.bn 2 h.Id t h.bj h.ah 2 h.bK)→A.g.el h.Term=h.Id→A.g.L h.Term=dW A.G t→bQ h.Trail≤bQ t→CP S ag w h.Id h.Trail h.bj h.Term h.bn t h.bj→
  dh (Option.bind (yz FF (cP.mk h.Id h.bg h.Term h.bn 2 h.Id t h.bj h.ah 2 h.bK) [] (List.replicate ag.length (bQ h.Trail+1)) (List.replicate (Int.toNat ((ag.length:Nat):Int)) 0) out) λ E=>
   Option.bind (ve FF (cP.mk h.Id h.bg h.Term h.bn 2 h.Id t h.bj h.ah 2 h.bK) [] E.1 E.2 out) λ Qv=>Option.bind (wK FF Qv [] E.1 E.2 out) λ u=>some (u.1,u.2.1,u.2.2.1,u.2.2.2.1,u.2.2.2.2)) λ r=>FR S ag w h.Id h.Trail h.bj h.ah r.1 r.2.1 r.2.2.1 r.2.2.2.1 r.2.2.2.2:=by
  intro t A B R k2 g2 X H L2 hle cp;have Q:HN ag (cP.mk h.Id h.bg h.Term h.bn 2 h.Id t h.bj h.ah 2 h.bK):=⟨hn.cf,hn.id,hn.t0,hn.t1,B⟩;rw[Yf];refine bJ (Ml F Q B (by simp) (by simp) M) ?_
  obtain⟨w3,e3,k3,g3,o3,L3,SM,J⟩:=Mx k2 X L2 H;have ld:lM ag w3 (cP.mk h.Id h.bg h.Term h.bn 2 h.Id t h.bj h.ah 2 h.bK) ((List.replicate ag.length (bQ h.Trail+1)).set k (bQ t+1)) ((List.replicate ag.length 0).set k (bQ t)):=by
   refine⟨SM,L3,by simp,by simp,λ j c x y c1 c2 c3=>?_,λ j c1=>?_,h1⟩
   ·have hE:0≤bQ h.Trail:=by unfold bQ;omega
    show 0≤x∧x≤(w3.g.ac c h.Term:Int)∧x≤bQ t∧x<y∧y≤bQ t+1;have J:bQ t≤(w3.g.ac h.Id h.Term:Int):=J;rcases uN c2 with ⟨rfl,rfl⟩|⟨z1,z2⟩
    ·rcases uN c3 with ⟨-,rfl⟩|⟨z, -⟩
     ·rw[M]at c1;cases c1;exact⟨by omega,J,by omega,by omega,by omega⟩
     ·exact absurd rfl z
    ·rcases uN c3 with ⟨z, -⟩|⟨-,z3⟩
     ·exact absurd z z1
     ·have:=VX (YO z2);have:=VX (YO z3);omega
   ·have:=F.ok.inj M c1;subst this;rw[Vg (by simp;exact yX)]
  refine bh (Jb F Q k3 o3 ld) λ g _ hg=>?_;obtain⟨w4,c,rfl,e4,k4,g4,o4,Y,a4, -,a5⟩:=hg
  refine bh (J' F ⟨hn.cf,hn.id,hn.t0,hn.t1,B⟩ o4 Y (by omega) λ m q=>((hm m q).ext R).ext (e3.trans e4)) λ r _ hr=>.ret ?_
  obtain⟨r1,r2,r3,r4,r5,r6⟩:=hr;rw[r1,r2,r3,r4];have:=Y.nl;have:=Y.ml;exact⟨⟨w4,(R.trans e3).trans e4,k4,o4,⟨λ q=>absurd (show(2:Int)=1 from q) (by decide),λ _=>⟨Y,a4⟩⟩,r6,g4.imp (λ q=>by rw[q,g3,g2]) id⟩,cp,⟨hn.cf,by have:=B.ok.len;show t.Entries.length≤_;omega,a5⟩,rfl,by simp,by omega,by omega,by simp only;omega⟩
 rcases hn.tc.append (bx.mk h.Term [])with ⟨a1,a2⟩|⟨x,a1⟩
 ·refine bJ a1 ?_;simp only[Y4,Y1];obtain⟨A,R,k2,g2,X,H,L2⟩:=L4 F (h:=cP.mk h.Id h.bg h.Term h.bn 2 h.Id h.Trail h.bj h.ah 2 h.bK) ⟨hn.cf,hn.id,hn.t0,hn.t1,hn.tc⟩ k1 o1 T L1 h1 (bx.mk h.Term []) rfl;have:=rest _ A a2 (e1.trans R) k2 (by rw[g2,O]) X H L2 (by rw[Ju];show bQ h.Trail≤bQ h.Trail+1;omega) (CP.app (Ext.refl ..) hw rfl o.d (e1.trans R) k2 (by rw[g2,O]) X.d)
  rw[hn.cf]at this;exact this
 ·refine bJ a1 ?_;simp only[Y7,Y1];have:=rest h.Trail w1 hn.tc e1 k1 O o1 T L1 (YX _) (CP.same (Ext.refl ..) hw rfl o.d);rw[hn.cf]at this;exact this
end
section
variable {S:Lg→aj→Prop}{ag:aa}{w wa:Wd}{h:cP}{v nx mt:aa}
def HO.alt(o:HO S ag w h)(a b c d:Int):HO S ag w (cP.mk h.Id h.bg h.Term h.bn a b h.Trail h.bj h.ah c d):=⟨o.d,o.c0,o.c1,o.cG,o.cl,o.ck⟩
def Nb(z:eC ag w)(o:HO S ag w h)(T:Int)(hT:h.Term<T)(a b c d:Int):∃w',Ext h.Id w w'∧eC ag w'∧w'.G=w.G∧w'.g=w.g∧w'.N h.Id=⟨T,dW w.G h.Trail⟩∧HO S ag w' (cP.mk h.Id h.bg T 0 a b h.Trail h.bj h.ah c d):=by
 have A:(w.N h.Id).tm=h.Term:=by rw[o.d.n]
 have u:(w.N h.Id).lg=dW w.G h.Trail:=by rw[o.d.n]
 obtain⟨w',e1,B,j,x,y⟩:=z.raise (i:=h.Id) T (by omega)
 rw[u]at x;refine⟨w',e1,B,j,y,x,⟨⟨by rw[j];exact x,?_,o.d.b0,by rw[j];exact o.d.bG,by rw[j];exact o.d.bt,o.d.ck.imp id λ⟨T1,m,p,q,r⟩=>⟨T1,m,by show T1≤T;omega,q,e1.cm r⟩,by rw[j];exact o.d.sn⟩,o.c0,o.c1,by rw[j];exact o.cG,by rw[j];exact o.cl,o.ck.imp id λ⟨T1,m,p,q,r⟩=>⟨T1,m,by show T1≤T;omega,q,e1.cm r⟩⟩⟩
 show w'.g.vt h.Id T=0;rw[y];exact z.inv.v0 _ _ (by omega)
def ZO(E:CO ag)(hn:HN ag h)(M:eC ag w)(o:HO S ag w h)(draw:Int):dh (vf FF draw h v nx mt []) λ z=>(∀r,z=.inl r→r=(h,[]))∧∀s,z=.inr s→(∀r,s=.inl r→FR S ag w h.Id h.Trail h.bj h.ah r.1 r.2.1 r.2.2.1 r.2.2.2.1 r.2.2.2.2∧¬2≤ag.length)∧∀r,s=.inr r→FR S ag w h.Id h.Trail h.bj h.ah r.1 [r.2.1] [] [] r.2.2∧r.1.ah=h.ah:=by
 have h7:=E.ok.n7;have hid:=E.ps _ hn.id;have pR:=E.lt _ hn.id;have t0:=hn.t0;have b0:=o.d.b0;have tl:=hn.tc.ok.last;unfold vf;refine cq (λ _=>.ret ⟨λ r e=>by cases e;rfl,λ s e=>by cases e⟩) λ iU=>?_
 refine bh (Q:=λ _=>True) (cq (λ _=>.ret trivial) λ _=>.ret trivial) λ d _ _=>?_;rw[hn.cf,dj (x:=h.Term+1) (by omega) (by omega)]
 generalize IntKind.wrap IntKind.i64 ((10:Int)+(@Int.tmod d (10:Int)))=l;obtain⟨wa,e1,k1,g1,X,n1,o1⟩:=Nb M o (h.Term+1) (by omega) 1 0 l l
 have T:w.g.D (h.Term+1) h.Id=none:=by
  cases e:w.g.D (h.Term+1) h.Id with
  |none=>rfl
  |some d=>
   have:=(M.inv.dl _ _ _ e).1;rw[o.d.n]at this;simp only at this;omega
 have y3:w.g.el (h.Term+1)≠h.Id:=λ q=>by
  obtain⟨V,d, -, -,Z, -⟩:=M.inv.es (h.Term+1) (by rw[q];omega)
  rw[q,T]at Z;cases Z
 obtain⟨wb,e2,k2,g2,R,q2⟩:=k1.jV (i:=h.Id) (by rw[n1,X];exact T) (by
  rw[n1,X];have:=M.inv.nl h.Id;rw[o.d.n]at this;rwa [show h.Term+1-1=h.Term by omega])
 rw[n1]at q2;have hD:wb.g.D (h.Term+1) h.Id=some (dW w.G h.Trail):=by rw[q2];exact if_pos ⟨rfl,rfl⟩
 obtain⟨j,e3,k3,g3,n3,q3⟩:=k2.mT (i:=h.Id) (c:=h.Id) (d:=dW w.G h.Trail) (.inl (by rw[R,n1,q2];show wa.g.vt _ _=0;rw[X];exact M.inv.v0 _ _ (by rw[o.d.n];simp only;omega))) (by rw[R,n1];exact hD) (by rw[R,n1];exact .inr ⟨rfl,Yg _⟩)
 rw[R,n1]at q3;have ex:Ext h.Id w j:=(e1.trans e2).trans e3;have A:j.G=w.G:=by rw[g3,g2,g1]
 have hN:j.N h.Id=⟨h.Term+1,dW w.G h.Trail⟩:=by rw[n3,R,n1]
 have H:j.g.vt h.Id (h.Term+1)=h.Id:=by rw[q3];exact if_pos ⟨rfl,rfl⟩
 have J:j.g.D (h.Term+1) h.Id=some (dW w.G h.Trail):=by rw[q3];exact hD
 have C:j.g.el (h.Term+1)≠h.Id:=by rw[q3];show wb.g.el _≠_;rw[q2];show wa.g.el _≠_;rw[X];exact y3
 have o3:HO S ag j (cP.mk h.Id ag (h.Term+1) h.Id 1 0 h.Trail h.bj h.ah l l):=⟨⟨by rw[A];exact hN,H,b0,by rw[A];exact o.d.bG,by rw[A];exact o.d.bt,o.d.ck.imp id λ⟨T1,m,p,q,r⟩=>⟨T1,m,by show T1≤h.Term+1;omega,q,ex.cm r⟩,by rw[A];exact o.d.sn⟩,o.c0,o.c1,by rw[A];exact o.cG,by rw[A];exact o.cl,o.ck.imp id λ⟨T1,m,p,q,r⟩=>⟨T1,m,by show T1≤h.Term+1;omega,q,ex.cm r⟩⟩
 have Ru:HN ag (cP.mk h.Id ag (h.Term+1) h.Id 1 0 h.Trail h.bj h.ah l l):=⟨rfl,hn.id,by show 0≤h.Term+1;omega,by show h.Term+1≤_;omega,hn.tc⟩
 refine bJ (MV [h.Id] E.ck E.ok (by simp)) (cq (λ Q0=>?_) λ _=>?_)
 ·have hV:=vk E.ok Q0;refine bh (MM E Ru k3 o3 (by rw[A];exact J) C hV (λ x B=>?_) (by show 1≤h.Term+1;omega) (by simp) (λ m q=>by cases q)) λ r _ F=>.ret ⟨(λ r e=>by cases e),λ s e=>?_⟩
  ·have:=YM (Wl.1 B).2;rw[Yu]at this;rw[this];exact H
  ·cases e;refine⟨λ r' e=>?_,λ r' e=>by cases e⟩
   cases e;refine⟨F.after ex A,λ h2=>?_⟩;have:=I7 _ [h.Id] hV.1 λ x B=>YM (Wl.1 B).2
   simp only[W9]at this;omega
 ·obtain⟨x,B⟩:=I8 (t:=h.Trail) b0;have jL:dH (dW w.G h.Trail)=x:=by
   have:=xA b0 o.d.bG o.d.bt B;rwa [Yk (by have:=o.lG;omega)]at this
  have hxb:0≤x∧x≤1099511627776:=by
   obtain⟨u,a1,a2⟩:=Jv hn.tc.ck hn.tc.ok;rw[hn.tc.oz B]at a1;cases a1;exact a2.2
  refine bJ (hn.tc.oz B) ?_;generalize hg:cP.mk h.Id ag (h.Term+1) h.Id 1 0 h.Trail h.bj h.ah l l=g at*;have:=dM (λ k (s:Nat×cP×List cj)=>tH FF h (bQ h.Trail,x) k (s.1:Int) s.2.1 s.2.2) (λ s=>s.1≤ag.length∧s.2.1=g∧s.2.2.length≤s.1∧∀m∈s.2.2,ff S ag j h.Id m) (λ s=>ag.length-s.1)
   (λ r=>r.1=g∧r.2.length≤7∧∀m∈r.2,ff S ag j h.Id m) (by
    rintro k ⟨i,q,oo⟩ ⟨h1,h2,Z,Y⟩ kk;simp only at h1 h2 Z Y kk⊢;subst h2;simp only[tH];rw[hn.cf];refine cq (λ _=>?_) λ _=>.ret ⟨rfl,by simp only;omega,Y⟩
    refine bh (Q:=λ r=>r.1=q∧r.2.length≤i+1∧∀m∈r.2,ff S ag j h.Id m) (bV (by omega) (cM (by simp;omega) λ c _ O=>bu (λ ne=>bJ (qN _ q _ _ _ oo (by omega)) (.ret ⟨rfl,by simp;omega,λ m' U=>?_⟩)) λ _=>.ret ⟨rfl,by simp only;omega,Y⟩)) λ r _ F=>?_
    ·simp only[YA,Yu]at U;have ne:c≠h.Id:=by rw[←hg]at ne;simpa using ne
     rcases U with e|rfl
     ·exact Y _ e
     ·rw[←hg];exact⟨⟨λ _=>⟨_,J,o.lG.symm,jL.symm⟩,(λ q=>by cases q),(λ q=>by cases q),(λ q=>by cases q),λ q=>by cases q⟩,⟨show(1:Int)<_ by decide,pR,E.lt _ O,show h.Term+1<_ by omega,show bQ h.Trail<_ by unfold bQ;omega,show x<_ by omega,show(0:Int)<_ by decide,λ e he=>by cases he⟩,rfl,O,ne⟩
    ·rw[w1 (by omega)]
     exact kk (i+1,r.1,r.2) ⟨by simp only;omega,F.1,F.2.1,F.2.2⟩ (by simp only;omega)) FF (0,g,[]) ⟨YL _,rfl,Yg _,λ x B=>by cases B⟩ (by simp only[FF];omega)
  refine bh this λ r _ F=>.ret ⟨(λ r e=>by cases e),λ s e=>?_⟩
  cases e;refine⟨λ r' e=>(by cases e),λ r' e=>?_⟩
  cases e;obtain⟨rg,rl,rm⟩:=F;subst hg;rw[rg];refine⟨⟨⟨j,ex,k3,o3,⟨λ _=>⟨by rw[A];exact J,C,rfl,λ y hy=>?_⟩,λ q=>absurd (show(1:Int)=2 from q) (by decide)⟩,rm,.inl A⟩,CP.same ex k3 A o3.d,⟨rfl,by have:=hn.tc.ok.len;show h.Trail.Entries.length≤_;omega,YX _⟩,rfl,by simp,by simp,by simp,by simp only;omega⟩,rfl⟩
  rw[Yu]at hy;rw[hy];exact H
end
structure NO(S:Lg→aj→Prop)(ag:aa)(w:Wd)(r:bD):Prop where
 rk:RK r
 ho:HO S ag w (hd r)
 ro:kY ag w (hd r) r.bO r.Next r.Match
 cf:r.bg=ag
section
variable {S:Lg→aj→Prop}{ag:aa}{w:Wd}{r:bD}
def NO.hn(n:NO S ag w r):HN ag (hd r):=⟨n.cf,by have:=n.rk.ok.AX;rwa [n.cf]at this,n.rk.ok.KY,n.rk.ok.Gt,n.rk.ok.tc,n.rk.ok.tr⟩
def FR.base(i:eC ag w){h:cP}{v nx mt:aa}(o:HO S ag w h)(ro:kY ag w h v nx mt)(hn:h.bg=ag∧h.Trail.Entries.length≤10000∧h.ah≤h.ah)(a:v.length≤100)(b:nx.length≤7)(c:mt.length≤7):FR S ag w h.Id h.Trail h.bj h.ah h v nx mt []:=
 ⟨⟨w,Ext.refl ..,i,o,ro,(λ m q=>by cases q),.inl rfl⟩,CP.same (Ext.refl ..) i rfl o.d,hn,rfl,a,b,c,by simp⟩
def kY.alt{h:cP}{v nx mt:aa}(r:kY ag w h v nx mt)(a b c:Int):kY ag w (cP.mk h.Id h.bg h.Term h.bn h.bE a h.Trail h.bj h.ah b c) v nx mt:=
 ⟨r.r1,λ q=>⟨⟨(r.r2 q).1.el,(r.r2 q).1.lg,(r.r2 q).1.nl,(r.r2 q).1.ml,(r.r2 q).1.nm,(r.r2 q).1.ow,(r.r2 q).1.t1⟩,(r.r2 q).2⟩⟩
def Qq(S:Lg→aj→Prop)(ag:aa)(w:Wd)(r:bD)(lone:Prop)(q:Qn):Prop:=∃h v n m out,q=QH h v n m out∧FR S ag w r.Id r.Trail r.bj r.ah h v n m out∧(lone→2≤ag.length→h.ah=r.ah)
def UF(u:CO ag)(p:eC ag w)(n:NO S ag w r)(draw:Int):dh (Ct FF r draw) (Qq S ag w r True):=by
 have i:=n.rk.nm;have hv:=n.rk.ok.vo.1;unfold Ct;refine bJ (E0 r n.rk.small) (bJ n.rk.ck ?_);simp only[YV,Y7];generalize hl:(if(0:Int)>IntKind.wrap IntKind.i64 ((hd r).Left-1)then(0:Int)else IntKind.wrap IntKind.i64 ((hd r).Left-1))=l;have base:∀l,FR S ag w r.Id r.Trail r.bj r.ah (cP.mk r.Id r.bg r.Term r.bn r.bE r.bo r.Trail r.bj r.ah l r.bK) r.bO r.Next r.Match []:=λ l=>FR.base p (n.ho.alt r.bE r.bo l r.bK) (n.ro.alt r.bo l r.bK) n.hn.cl (by omega) i.1 i.2
 refine bh (Q:=λ s:cP×aa×aa×aa×List cj=>FR S ag w r.Id r.Trail r.bj r.ah s.1 s.2.1 s.2.2.1 s.2.2.2.1 s.2.2.2.2∧(2≤ag.length→s.1.ah=r.ah)) ?_ λ s _ j=>.ret ⟨s.1,s.2.1,s.2.2.1,s.2.2.2.1,s.2.2.2.2,rfl,j.1,λ _=>j.2⟩;refine cq (λ _=>.ret ⟨base _,λ _=>rfl⟩) λ _=>bu (λ e=>?_) λ e=>?_
 ·have q:r.bE=2:=by simpa[hd]using e
  have ro:=n.ro.alt r.bo 2 r.bK;refine bh (J' (h:=cP.mk r.Id r.bg r.Term r.bn r.bE r.bo r.Trail r.bj r.ah 2 r.bK) u ⟨n.hn.cf,n.hn.id,n.hn.t0,n.hn.t1,n.hn.tc⟩ (n.ho.alt r.bE r.bo 2 r.bK) (ro.r2 q).1 (by simp) (λ m q=>by cases q)) λ s _ j=>.ret ?_
  obtain⟨s1,y,B,A,x,z⟩:=j;rw[s1,y,B,A];refine⟨⟨⟨w,Ext.refl ..,p,n.ho.alt r.bE r.bo 2 r.bK,ro,z,.inl rfl⟩,CP.same (Ext.refl ..) p rfl n.ho.d,n.hn.cl,rfl,by show r.bO.length≤_;omega,i.1,i.2,by simp only[Yx]at x;show s.2.2.2.2.length≤200;omega⟩,λ _=>rfl⟩
 ·refine bh (ZO (h:=cP.mk r.Id r.bg r.Term r.bn r.bE r.bo r.Trail r.bj r.ah l r.bK) (v:=r.bO) (nx:=r.Next) (mt:=r.Match) u ⟨n.hn.cf,n.hn.id,n.hn.t0,n.hn.t1,n.hn.tc⟩ p (n.ho.alt r.bE r.bo l r.bK) draw) λ o _ ho=>?_;rcases o with a|b|c
  ·have:=ho.1 a rfl;subst this;exact .ret ⟨base _,λ _=>rfl⟩
  ·have:=(ho.2 _ rfl).1 b rfl;exact .ret ⟨this.1,λ q=>absurd q this.2⟩
  ·have:=(ho.2 _ rfl).2 c rfl;exact .ret ⟨this.1,λ _=>this.2⟩
def kY.oJ{h:cP}{v nx mt:aa}(a:h.bE≠1)(b:h.bE≠2):kY ag w h v nx mt:=⟨λ q=>absurd q a,λ q=>absurd q b⟩
def nF.own{mt:aa}{k n:Nat}{a b c:Int}(C:mt[k]? =some a)(i:∀x∈mt,x≤a)(F:a≤b)(hn:n+1<mt.length)(h:nF (mt.set k b) n c):nF mt n c∧c≤a:=by
 obtain⟨u,o⟩:=Ys.1 C;have B:∀(p:Int→Bool) (z:Int),(mt.set k z).countP p=(mt.take k).countP p+(if p z then 1 else 0)+(mt.drop (k+1)).countP p:=λ p z=>by
  rw[List.set_eq_take_append_cons_drop,if_pos u,VC,Uf];omega
 have A:∀p:Int→Bool,mt.countP p=(mt.take k).countP p+(if p a then 1 else 0)+(mt.drop (k+1)).countP p:=λ p=>by
  rw[←B p a,show mt.set k a=mt by rw[←o,List.set_getElem_self]]
 have l1:(mt.take k).length=k:=by rw[Y9];omega
 have l2:(mt.drop (k+1)).length=mt.length-(k+1):=Yw;obtain⟨h1,E⟩:=h;rw[B]at h1 E;unfold nF;rw[A,A];by_cases q:a<c
 ·
  exfalso;have f1:(mt.take k).countP (λ y=>decide (y<c))=(mt.take k).length:=Ui.2 λ x j=>by have:=i x (YZ j);simp only[YB];omega
  have f2:(mt.drop (k+1)).countP (λ y=>decide (y<c))=(mt.drop (k+1)).length:=Ui.2 λ x j=>by have:=i x (Wq j);simp only[YB];omega
  omega
 ·have e1:(if(decide (a<c)=true)then 1 else 0)=0:=if_neg (by simpa using q)
  have e2:(if(decide (b≤c)=true)then 1 else 0)≤(if(decide (a≤c)=true)then 1 else 0):=by
   by_cases z:b≤c
   ·rw[if_pos (by simpa using z),if_pos (by simp;omega)];exact Yg _
   ·rw[if_neg (by simpa using z)];omega
  refine⟨⟨?_,?_⟩,by omega⟩
  ·rw[e1];omega
  ·omega
end
section
variable {S:Lg→aj→Prop}{ag:aa}{w:Wd}{r:bD}
def FRP(S:Lg→aj→Prop)(ag:aa)(w:Wd)(r:bD)(q:Int×aa×Int×Int×Int×Int×Int×Int×(List bx)×aj×Int×Int×Int×Int×Int×aa×aa×aa×(List cj)):Prop:=∃g v n m out i e,q=(g.Id,g.bg,g.Term,g.bn,g.bE,g.bo,g.Trail.an,g.Trail.au,g.Trail.Entries,g.bj,g.ah,g.Left,g.bK,i,e,v,n,m,out)∧FR S ag w r.Id r.Trail r.bj r.ah g v n m out∧(2≤ag.length→g.ah=r.ah)
def Tp{i:Int}(h:i∈ag):∃k<ag.length,ag[k]? =some i:=by
 obtain⟨k,j,e⟩:=Wc h;exact⟨k,j,by rw[Y3 j,e]⟩
def Uy{t:ca}{e:bx}{c:Int}(h:c≤bQ t):gp (ca.mk t.an t.au (t.Entries++[e])) c=gp t c:=by
 unfold bQ at h;unfold gp;simp only;split
 ·rfl
 ·split
  ·rw[Yt (by omega)]
  ·rfl
def Zpf(u:CO ag)(F:eC ag w)(n:NO S ag w r)(i:aj):dh (CU FF r i) (FRP S ag w r):=by
 have B:=n.rk.nm;have hv:=n.rk.ok.vo.1;have h7:=u.ok.n7;unfold CU;refine bJ (E0 r n.rk.small) ?_;have base:FR S ag w r.Id r.Trail r.bj r.ah (hd r) r.bO r.Next r.Match []:=FR.base F n.ho n.ro n.hn.cl (by omega) B.1 B.2
 refine bh (Q:=λ b=>b=false→r.bE=2) (bJ n.rk.ck (by simp only[YV,Y7];exact .ret λ e=>by simpa using e)) λ b _ hb=>bu (λ _=>.ret ⟨hd r,r.bO,r.Next,r.Match,[],0,4,rfl,base,λ _=>rfl⟩) λ e=>?_
 obtain⟨ld,af⟩:=n.ro.r2 (hb e);refine bh (Q:=λ _=>True) (cq (λ _=>.ret trivial) λ _=>.ret trivial) λ b _ _=>bu (λ _=>.ret ⟨hd r,r.bO,r.Next,r.Match,[],0,1,rfl,base,λ _=>rfl⟩) λ _=>?_;rcases n.hn.tc.append (bx.mk r.Term i)with ⟨X,C⟩|⟨x,X⟩
 ·refine bJ X ?_;simp only[YV,Y7];obtain⟨wa,e1,k1,g1,Z,Y,L1⟩:=L4 u n.hn F n.ho ld.el ld.lg ld.t1 (bx.mk r.Term i) rfl;obtain⟨V,e2,k2,g2,o2,L2,O,o⟩:=Mx k1 Z L1 Y;generalize ht:ca.mk (hd r).Trail.an (hd r).Trail.au ((hd r).Trail.Entries++[bx.mk r.Term i])=t at*;have te:bQ t=bQ r.Trail+1:=by rw[←ht];exact Ju _ _
  have A:HN ag (cP.mk r.Id r.bg r.Term r.bn r.bE r.bo t r.bj r.ah r.Left r.bK):=⟨n.cf,n.hn.id,n.hn.t0,n.hn.t1,C⟩;obtain⟨k,R,p⟩:=Tp n.hn.id;have p:ag[k]? =some r.Id:=p;refine bJ (Ml u A C ld.nl ld.ml p) ?_;have ex:=e1.trans e2;have M:lM ag V (cP.mk r.Id r.bg r.Term r.bn r.bE r.bo t r.bj r.ah r.Left r.bK) (r.Next.set k (bQ t+1)) (r.Match.set k (bQ t)):=by
   refine⟨O,L2,by rw[Vu];exact ld.nl,by rw[Vu];exact ld.ml,λ j c x y c1 c2 c3=>?_,λ j c1=>?_,ld.t1⟩
   ·show 0≤x∧x≤(V.g.ac c r.Term:Int)∧x≤bQ t∧x<y∧y≤bQ t+1;have o:bQ t≤(V.g.ac r.Id r.Term:Int):=o;have b0:=n.ho.d.b0;have hE:0≤bQ t:=by rw[te];show 0≤r.Trail.an+_+1;have:0≤r.Trail.an:=b0;omega
    rcases uN c2 with ⟨rfl,rfl⟩|⟨z1,z2⟩
    ·rcases uN c3 with ⟨-,rfl⟩|⟨z, -⟩
     ·rw[p]at c1;cases c1;exact⟨by omega,o,by omega,by omega,by omega⟩
     ·exact absurd rfl z
    ·rcases uN c3 with ⟨z, -⟩|⟨-,z3⟩
     ·exact absurd z z1
     ·have:=ld.nm j c x y c1 z2 z3;have m2:=ex.ac c r.Term;have q1:x≤bQ r.Trail:=this.2.2.1;have q2:x≤(w.g.ac c r.Term:Int):=this.2.1;have q3:y≤bQ r.Trail+1:=this.2.2.2.2;exact⟨this.1,by omega,by omega,this.2.2.2.1,by omega⟩
   ·have:=u.ok.inj p c1;subst this;rw[Vg (by rw[ld.ml];exact R)]
  refine bh (Jb u A k2 o2 M) λ g _ hg=>?_;obtain⟨wc,c,rfl,e3,k3,g3,o3,E,a3,a4,a5⟩:=hg
  have U:HN ag (hC (cP.mk r.Id r.bg r.Term r.bn r.bE r.bo t r.bj r.ah r.Left r.bK) c):=⟨n.cf,n.hn.id,n.hn.t0,n.hn.t1,C⟩;refine bh (J' u U o3 E (by simp) (λ m q=>by cases q)) λ s _ hs=>?_
  obtain⟨s1,s2,s3,s4,s5,s6⟩:=hs;rw[s1];refine bJ (uW C) (.ret ⟨_,s.2.1,s.2.2.1,s.2.2.2.1,s.2.2.2.2,bQ t,0,rfl,?_⟩);rw[s2,s3,s4];have:=E.nl;have:=E.ml;have cp:=CP.app (Ext.refl r.Id w) F rfl n.ho.d e1 k1 g1 (by have:=Z.d;rw[←ht]at this;exact this)
  rw[ht]at cp;refine⟨⟨⟨wc,ex.trans e3,k3,o3,⟨λ q=>absurd (show r.bE=1 from q) (by rw[hb e];decide),λ _=>⟨E,a3⟩⟩,s6,g3.imp (λ q=>by rw[q,g2,g1]) id⟩,cp,⟨n.cf,by have:=C.ok.len;show t.Entries.length≤_;omega,a5⟩,rfl,by omega,by omega,by omega,by simp only[Yx]at s5;omega⟩,λ h2=>?_⟩
  refine a4 λ x hx H T=>?_;have J:∀y∈r.Match,y≤bQ r.Trail:=λ y hy=>by
   obtain⟨j,hj,rfl⟩:=Wc hy;have h3:=ld.ml;have h4:=ld.nl;exact(ld.nm j _ _ _ (Y3 (show j<ag.length by omega)) (Y3 hj) (Y3 (show j<r.Next.length by omega))).2.2.1
  have hml:=ld.ml;obtain⟨m1,m2⟩:=nF.own (ld.ow k p) J (show bQ r.Trail≤bQ t by omega) (by omega) hx
  refine af x m1 H ?_;rw[←T,←ht];exact(Uy m2).symm
 ·refine bJ X ?_;simp only[V2,Y4];exact .ret ⟨hd r,r.bO,r.Next,r.Match,[],0,3,rfl,base,λ _=>rfl⟩
end
section
variable {S:Lg→aj→Prop}{ag:aa}{w:Wd}{r:bD}
def Nj{t:ca}{n:Int}(x:Int)(h:t.an≤n∧n≤bQ t):bQ (dZ t n x)=bQ t:=by
 unfold bQ at h⊢;unfold dZ;simp only[Yw];omega
def Uz{t:ca}{n:Int}(x:Int)(h:t.an≤n){c:Int}(i:n<c):gp (dZ t n x) c=gp t c:=by
 unfold gp dZ;simp only;rw[if_neg (by omega),if_pos i,if_neg (by omega),if_pos (by omega),YP]
 congr 2;omega
def I0{G:Lg}{t:ca}(h0:0≤t.an)(h1:t.an≤G.length){n x:Int}(hn:t.an≤n)(i:(dW G t).take n.toNat=G.take n.toNat):dW G (dZ t n x)=dW G t:=by
 have:=V0 n.toNat (dW G t);rw[i,show n.toNat=t.an.toNat+(n-t.an).toNat by omega,Jp h0 h1]at this
 rw[←this];unfold dW dZ;simp only;rw[show n.toNat=t.an.toNat+(n-t.an).toNat by omega]
def Ms{i T V:Int}{t:ca}{s p:aj}{n x:Int}(d:jI S ag w i T V t s)(j:gp t n=some x)(u:n≤w.G.length)(o:(dW w.G t).take n.toNat=w.G.take n.toNat)(ck:CK ag w T n)(sn:S (w.G.take n.toNat) p):jI S ag w i T V (dZ t n x) p:=by
 have q:=tf j;have b0:=d.b0;refine⟨?_,d.vt,by show 0≤n;omega,u,?_,ck,sn⟩
 ·rw[d.n,I0 b0 d.bG q.1 o]
 ·show x=dH (w.G.take n.toNat);rw[←o];exact(xA b0 d.bG d.bt j).symm
def CP.cut{i T V:Int}{t:ca}{s u:aj}{n x:Int}{w':Wd}(e:Ext i w w')(j:eC ag w')(p:w'.G=w.G)(d:jI S ag w' i T V t s)(A:jI S ag w' i T V (dZ t n x) u)(y:gp t n=some x):CP S ag w i t s T V (dZ t n x) u:=by
 refine⟨⟨w',e,j,p,d⟩,λ h1 h2 h3 q q1 z=>⟨w',e,j,p,?_⟩,λ _=>⟨?_,w',e,j,p,A⟩⟩
 ·have h1:n=t.an:=h1;have o:(dZ t n x).Entries=t.Entries:=by unfold dZ;rw[h1];simp
  have:=z t.Entries.length (Yg _) (by rw[o];exact Yg _) (by rw[o])
  rw[o,Yk (by omega)];exact d
 ·rw[if_pos (show gp t (dZ t n x).an=some (dZ t n x).au from y)];rfl
def ZpE(hc:CO ag)(B:eC ag w)(n:NO S ag w r)(i:aj)(F:S (w.G.take r.ah.toNat) i)(hl:i.length≤60000):
 ∃x,zH FF r r.ah i=some (r.Id,r.bg,r.Term,r.bn,r.bE,r.bo,r.ah,x,r.Trail.Entries.drop (r.ah-r.Trail.an).toNat,i,r.ah,r.Left,r.bK,0,r.bO,r.Next,r.Match)∧
  FR S ag w r.Id r.Trail r.bj r.ah (cP.mk r.Id r.bg r.Term r.bn r.bE r.bo (dZ r.Trail r.ah x) i r.ah r.Left r.bK) r.bO r.Next r.Match []:=by
 have p:=n.rk.nm;have hv:=n.rk.ok.vo.1;have ho:=n.ho;have c0:r.Trail.an≤r.ah:=ho.c0;have c1:r.ah≤bQ r.Trail:=ho.c1;have b0:0≤r.Trail.an:=ho.d.b0;obtain⟨x,A⟩:=rr b0 ho.d.bG (show r.Trail.an≤r.ah∧r.ah≤bQ r.Trail from⟨c0,c1⟩)
 have z:sq FF r.Trail r.ah=some (dZ r.Trail r.ah x,true):=n.hn.tc.cut A;refine⟨x,?_,?_⟩
 ·have:dh (zH FF r r.ah i) λ q=>q=(r.Id,r.bg,r.Term,r.bn,r.bE,r.bo,r.ah,x,r.Trail.Entries.drop (r.ah-r.Trail.an).toNat,i,r.ah,r.Left,r.bK,0,r.bO,r.Next,r.Match):=by
   unfold zH;refine bJ (E0 r n.rk.small) (bJ n.rk.ck ?_);simp only[YV,Y7];refine bh (Q:=λ b=>b=false) (cq (λ h=>absurd h (by show¬r.ah<r.Trail.an;omega)) λ _=>cq (λ h=>absurd h (Int.lt_irrefl _)) λ _=>.ret (Ye (by omega))) λ b _ O=>?_
   subst O;exact bJ z (.ret rfl)
  obtain⟨q,e,rfl⟩:=this;exact e
 ·have o:dW w.G (dZ r.Trail r.ah x)=dW w.G r.Trail:=I0 b0 ho.d.bG c0 ho.cl;have C:=Ms ho.d A ho.cG ho.cl ho.ck F;have j:bQ (dZ r.Trail r.ah x)=bQ r.Trail:=Nj x ⟨c0,c1⟩;refine⟨⟨w,Ext.refl ..,B,⟨C,YX _,by show r.ah≤_;rw[j];exact c1,ho.cG,by show(dW w.G (dZ r.Trail r.ah x)).take _=_;rw[o];exact ho.cl,ho.ck⟩,⟨λ q=>?_,λ q=>?_⟩,(λ m q=>by cases q),.inl rfl⟩,CP.cut (Ext.refl ..) B rfl ho.d C A,⟨n.cf,by have:=n.rk.ok.tr.len;show(List.drop _ r.Trail.Entries).length≤_;rw[Yw];omega,YX _⟩,rfl,by omega,p.1,p.2,by simp⟩
  ·have:=n.ro.r1 q;exact⟨this.1.trans (YU some o.symm),this.2⟩
  ·obtain⟨ld,M⟩:=n.ro.r2 q;refine⟨⟨ld.el,ld.lg.trans o.symm,ld.nl,ld.ml,λ k c x' y h1 J H=>?_,λ k h1=>?_,ld.t1⟩,λ c E u=>?_⟩
   ·show _∧_∧x'≤bQ (dZ r.Trail r.ah x)∧_∧y≤bQ (dZ r.Trail r.ah x)+1;rw[j];exact ld.nm k c x' y h1 J H
   ·show r.Match[k]? =some (bQ (dZ r.Trail r.ah x));rw[j];exact ld.ow k h1
   ·show gp (dZ r.Trail r.ah x) c≠_;rw[Uz x c0 u];exact M c E u
end
structure TK(ag:aa)(m:cj)(i:Int):Prop where
 dst:m.To=i
 fr:m.cV∈ag
 ne:m.cV≠i
 t0:1≤m.Term
 tm:m.Term≤1099511627776
 i0:0≤m.Index
 i1:m.Index≤1099511627776
 lt:m.bM≤1099511627776
 cm:m.ah≤1099511627776
 en:m.Entries.length≤8
section
variable {S:Lg→aj→Prop}{ag:aa}{w:Wd}{h:cP}{v n q:aa}{m:cj}
def Zw(m:cj)(y:CO ag)(hn:HN ag h)(o:List cj):dh (CZ FF m h v n q o) λ r=>r=true→TK ag m h.Id:=by
 have h7:=y.ok.n7;unfold CZ;refine bh (Q:=λ b=>b=false→m.To=h.Id∧m.cV∈ag∧m.cV≠h.Id∧1≤m.Term∧m.Term≤1099511627776) ?_ λ b _ B=>bu (λ _=>.ret (by simp)) λ e=>?_
 ·refine cq (λ _=>.ret (by simp)) λ _=>cq (λ _=>.ret (by simp)) λ _=>bu (λ _=>.ret (by simp)) λ e1=>bu (λ _=>.ret (by simp)) λ j=>?_
  rw[hn.cf];exact bh (wC _ _ (by omega)) λ d _ hd=>bu (λ _=>.ret (by simp)) λ e=>cq (λ _=>.ret (by simp)) λ _=>.ret λ q=>⟨by simpa using e1,hd.1 (by simpa using e),by simpa using j,by omega,by have:=Wb q;omega⟩
 obtain⟨z,f1,f2,A,x⟩:=B e;refine bh (Q:=λ b=>b=false→TK ag m h.Id) ?_ λ b _ i=>bu (λ _=>.ret (by simp)) λ j=>?_
 ·refine cq (λ _=>.ret (by simp)) λ a1=>cq (λ _=>.ret (by simp)) λ a2=>cq (λ _=>.ret (by simp)) λ a3=>cq (λ _=>.ret (by simp)) λ a4=>cq (λ _=>.ret (by simp)) λ a5=>cq (λ _=>.ret (by simp)) λ a6=>cq (λ _=>.ret (by simp)) λ a7=>.ret λ _=>⟨z,f1,f2,A,x,by omega,by omega,by omega,by omega,by omega⟩
 have p:=i j;obtain⟨o',e,h1, -⟩:=Zv m (by have:=p.en;omega)
 rw[e];cases o' with
 |inl b=>exact .ret λ q=>by rw[show b=false from h1 b rfl]at q;cases q
 |inr u=>exact .ret λ _=>p
def AQ{k f t tm i:Int}{y:Bool}(h1:k<10)(q:f<9223372036854775808)(p:t<9223372036854775808)(u:tm<9223372036854775808)(j:i<9223372036854775808):MB (cj.mk k f t tm i 0 0 y [] []):=
 ⟨show k<_ by omega,q,p,u,j,show(0:Int)<_ by decide,show(0:Int)<_ by decide,λ e o=>by cases o⟩
def zk{k f t tm i:Int}{y:Bool}(j:k=2∨k=4)(h1:f<9223372036854775808)(z:CO ag)(u:t∈ag)(x:tm<9223372036854775808)(B:i<9223372036854775808)(o:t≠f)(A:k=2→y=true→w.g.vt f tm=t∧t≠0)(C:k=4→y=true→i≤(w.g.ac f tm:Int)):ff S ag w f (cj.mk k f t tm i 0 0 y [] []):=
 ⟨⟨λ q=>(by rcases j with p|p<;>(rw[show k=1 from q]at p;cases p)),A,λ q=>(by rcases j with p|p<;>(rw[show k=3 from q]at p;cases p)),C,λ q=>by rcases j with p|p<;>(rw[show k=5 from q]at p;cases p)⟩,AQ (by omega) h1 (z.lt _ u) x B,rfl,u,o⟩
def Ev{i:Int}{x:cj}(o:ff S ag w i x):∀y,y∈([]:List cj)++[x]→ff S ag w i y:=λ y j=>by
 simp only[YQ,Yu]at j;subst j;exact o
def FR.send(i:eC ag w)(o:HO S ag w h)(ro:kY ag w h v n q)(hn:h.bg=ag∧h.Trail.Entries.length≤10000∧h.ah≤h.ah)(u:v.length≤100)(p:n.length≤7)(j:q.length≤7){x:cj}(ho:ff S ag w h.Id x):FR S ag w h.Id h.Trail h.bj h.ah h v n q ([]++[x]):=
 ⟨⟨w,Ext.refl ..,i,o,ro,Ev ho,.inl rfl⟩,CP.same (Ext.refl ..) i rfl o.d,hn,rfl,u,p,j,by simp⟩
def UO(x:CO ag)(hn:HN ag h)(p:eC ag w)(o:HO S ag w h)(ro:kY ag w h v n q)(j:TK ag m h.Id)(y:v.length≤100)(u:n.length≤7)(z:q.length≤7):dh (C1 FF m h v n q []) λ r=>FR S ag w h.Id h.Trail h.bj h.ah r.1 r.2.1 r.2.2.1 r.2.2.2.1 r.2.2.2.2:=by
 have i:=x.lt _ hn.id;have t1:=hn.t1;unfold C1;refine bu (λ _=>bJ (qN _ h v n q [] (by decide)) (.ret (FR.send p o ro hn.cl y u z (zk (.inl rfl) i x j.fr (by omega) (show(0:Int)<_ by decide) j.ne (λ _ q=>by cases q) λ q=>by cases q)))) λ _=>?_
 refine bh (Q:=λ _=>True) (bu (λ _=>.ret trivial) λ _=>.ret trivial) λ b _ _=>bu (λ _=>bJ (qN _ h v n q [] (by decide)) (.ret (FR.send p o ro hn.cl y u z (zk (.inr rfl) i x j.fr (by omega) (show(0:Int)<_ by decide) j.ne (λ q=>by cases q) λ _ q=>by cases q)))) λ _=>.ret (FR.base p o ro hn.cl y u z)
def HO.last(o:HO S ag w h){x:Int}(i:gp h.Trail (bQ h.Trail)=some x):dH (dW w.G h.Trail)=x:=by
 have:=xA o.d.b0 o.d.bG o.d.bt i;rwa [Yk (by have:=o.lG;omega)]at this
def Uo(E:CO ag)(hn:HN ag h)(J:eC ag w)(o:HO S ag w h)(ro:kY ag w h v n q)(z:TK ag m h.Id)(hm:iA S ag w m)(hk:m.Kind=1)(F:m.Term=h.Term)(U:v.length≤100)(T:n.length≤7)(Z:q.length≤7):dh (C5 FF m h v n q []) λ r=>FR S ag w h.Id h.Trail h.bj h.ah r.1 v n q r.2:=by
 have C:=E.lt _ hn.id;have t1:=hn.t1;have hfp:=E.ps _ z.fr;obtain⟨x,u⟩:=I8 (t:=h.Trail) o.d.b0;have p:=o.last u;obtain⟨d,R,d2,d3⟩:=hm.k1 hk;have V:=o.lG;unfold C5;refine bh (Q:=λ b=>b=true→(h.bn=0∨h.bn=m.cV)∧h.bE=0∧(dH (dW w.G h.Trail)<dH d∨dH d=dH (dW w.G h.Trail)∧(dW w.G h.Trail).length≤d.length)) ?_ λ b _ hb=>?_
 ·have X:h.bE=0→(h.bn=0∨h.bn=m.cV)→dh (Option.bind (xX FF h.Trail m.Index m.bM) λ y=>some y) λ b=>b=true→(h.bn=0∨h.bn=m.cV)∧h.bE=0∧(dH (dW w.G h.Trail)<dH d∨dH d=dH (dW w.G h.Trail)∧(dW w.G h.Trail).length≤d.length):=λ a b=>bJ (hn.tc.rn u _ _) (.ret λ e=>⟨b,a,by
   have:=YM e;rw[p,←d3];rcases this with k|⟨k1,k2⟩
   ·exact .inl k
   ·exact .inr ⟨k1,by omega⟩⟩)
  refine bu (λ e1=>bu (λ H=>X (by simpa using H) (.inl (by simpa using e1))) λ _=>.ret (by simp)) λ _=>bu (λ e1=>bu (λ H=>X (by simpa using H) (.inr (by simpa using e1))) λ _=>.ret (by simp)) λ _=>.ret (by simp)
 cases b with
 |false=>
  simp only[Y7,Y1];exact bJ (qN _ h v n q [] (by decide)) (.ret (FR.send J o ro hn.cl U T Z (zk (.inl rfl) C E z.fr (by omega) (show(0:Int)<_ by decide) z.ne (λ _ q=>by cases q) λ q=>by cases q)))
 |true=>
  obtain⟨c1,Y,c3⟩:=hb rfl;have A:w.N h.Id=⟨h.Term,dW w.G h.Trail⟩:=o.d.n;obtain⟨wa,e1,k1,j,n1,M⟩:=J.mT (i:=h.Id) (c:=m.cV) (d:=d) (by rw[A];show w.g.vt h.Id h.Term=0∨_;rw[o.d.vt];exact c1) (by rw[A];rw[F]at R;exact R) (by rw[A];exact c3)
  rw[A]at M;have B:wa.g.vt h.Id h.Term=m.cV:=by rw[M];exact if_pos ⟨rfl,rfl⟩
  have O:HO S ag wa (cP.mk h.Id h.bg h.Term m.cV h.bE h.bo h.Trail h.bj h.ah h.bK h.bK):=⟨⟨by rw[n1,j];exact A,B,o.d.b0,by rw[j];exact o.d.bG,by rw[j];exact o.d.bt,o.d.ck.ext e1,by rw[j];exact o.d.sn⟩,o.c0,o.c1,by rw[j];exact o.cG,by rw[j];exact o.cl,o.ck.ext e1⟩
  simp only[Y4,Y1];refine bJ (qN _ _ v n q [] (by decide)) (.ret ⟨⟨wa,e1,k1,O,kY.oJ (by show h.bE≠1;rw[Y];decide) (by show h.bE≠2;rw[Y];decide),Ev (zk (.inl rfl) C E z.fr (by show h.Term<_;omega) (show(0:Int)<_ by decide) z.ne (λ _ _=>⟨B,by show m.cV≠0;omega⟩) λ q=>by cases q),.inl j⟩,CP.same e1 k1 j O.d,hn.cl,rfl,U,T,Z,by simp⟩)
def Xz(p:CO ag)(hn:HN ag h)(u:eC ag w)(o:HO S ag w h)(ro:kY ag w h v n q)(C:TK ag m h.Id)(O:iA S ag w m)(M:m.Kind=2)(A:m.Term=h.Term)(hv:v.length≤90)(i:n.length≤7)(H:q.length≤7):dh (yB FF m h v n q []) λ z=>
 (∀r,z=.inl r→FR S ag w h.Id h.Trail h.bj h.ah r.1 r.2.1 r.2.2.1 r.2.2.2.1 r.2.2.2.2)∧∀r,z=.inr r→FR S ag w h.Id h.Trail h.bj h.ah r.1 r.2.2.2.1 r.2.2.2.2.1 r.2.2.2.2.2.1 r.2.2.2.2.2.2:=by
 have h7:=p.ok.n7;unfold yB;refine bh (Q:=λ b=>b=false→h.bE=1∧m.mc=true) (bu (λ _=>.ret (by simp)) λ e1=>bu (λ _=>.ret (by simp)) λ T=>bh (wC _ _ (by omega)) λ _ _ _=>.ret λ _=>⟨by simpa using e1,by simpa using T⟩) λ b _ V=>bu (λ _=>.ret ⟨λ r e=>by cases e;exact FR.base u o ro hn.cl (by show v.length≤100;omega) i H,λ s e=>by cases e⟩) λ e=>?_
 obtain⟨r1,y⟩:=V e;obtain⟨F,E,R,U⟩:=ro.r1 r1;have j:∀x,x∈v++[m.cV]→w.g.vt x h.Term=h.Id:=λ x i=>by
  rcases YA.1 i with k|k
  ·exact U x k
  ·rw[Yu]at k;have:=(O.k2 M y).1;rw[A,C.dst]at this;rw[k];exact this
 refine bV (by unfold bI;omega) ?_
 rw[hn.cf];refine bJ (MV (v++[m.cV]) p.ck p.ok (by simp;omega)) (cq (λ B=>bh (MM (v:=v++[m.cV]) (nx:=n) (mt:=q) p hn u o F E (vk p.ok B) (λ x i=>j x (YM (Wl.1 i).2)) (by have:=C.t0;omega) (by simp) (λ m q=>by cases q)) λ r _ J=>.ret ⟨(λ r e=>by cases e),λ s e=>by cases e;exact J⟩) λ _=>.ret ⟨λ r e=>?_,λ s e=>by cases e⟩)
 cases e;exact FR.base u o ⟨λ _=>⟨F,E,R,j⟩,λ q=>by rw[r1]at q;cases q⟩ hn.cl (by simp;omega) i H
end
section
variable {S:Lg→aj→Prop}{ag:aa}{w wa:Wd}{h:cP}{v n q:aa}{m:cj}
def vP(i:eC ag w){T c:Int}(ck:CK ag w T c)(j:w.g.el T≠0)(hG:c≤w.G.length):w.G.take c.toNat<+:w.g.L T:=by
 rcases ck with k|⟨T1,m,a,b,d⟩
 ·rw[k];simp
 ·exact i.QU d a j (by omega) (by omega)
def HO.nl(i:eC ag w)(o:HO S ag w h):WL w.g.L h.Term (dW w.G h.Trail):=by
 have:=i.inv.nl h.Id;rwa [o.d.n]at this
def EM{p l:Lg}(h:p<+:l){k:Nat}(i:k=p.length):l.take k=p:=by
 obtain⟨r,rfl⟩:=h;rw[i,List.take_left]
def Ti(j:eC ag w)(o:HO S ag w h)(q:w.g.el h.Term≠0):(dW w.G h.Trail).take h.Trail.an.toNat=(w.g.L h.Term).take h.Trail.an.toNat:=by
 have h1:=vP j o.d.ck q o.d.bG;have i:=o.d.b0;have p:=o.d.bG;rw[NL i p (Yg _)];exact(EM h1 (by rw[Y9];omega)).symm
def zp(Q:CO ag)(hn:HN ag h)(M:TK ag m h.Id)(he:w.g.el h.Term≠0){t:ca}{s:aj}{T0 c E:Nat}{a C':Int}(e:Ext h.Id w wa)(H:eC ag wa)(x:wa.G=w.G)(R:wa.g=w.g)(j:HO S ag wa (cP.mk h.Id h.bg h.Term h.bn 0 m.cV t s h.ah h.bK h.bK))
 (V:E≤(w.g.L h.Term).length) (T:(w.g.L h.Term).take E<+:dW w.G t) (ha:a=(E:Int)) (J:a<9223372036854775808) (Ee:c≤w.G.length) (C:w.G.take c<+:w.g.L h.Term) (F:CK ag w h.Term c) (h1:h.ah≤C') (Z:C'≤bQ t) (B:C'=h.ah∨C'≤c∧C'≤E)
 (cp:CP S ag w h.Id h.Trail h.bj h.Term h.bn t s) (y:t.Entries.length≤10000) (Y:n.length≤7) (hq:q.length≤7):FR S ag w h.Id h.Trail h.bj h.ah (cP.mk h.Id h.bg h.Term h.bn 0 m.cV t s C' h.bK h.bK) [] n q ([]++[cj.mk 4 h.Id m.cV h.Term a 0 0 true [] []]):=by
 have A:=Q.lt _ hn.id;have t1:=hn.t1;have z:wa.N h.Id=⟨h.Term,dW wa.G t⟩:=j.d.n;obtain⟨o,u,k2,g2,n2,U,O⟩:=H.sX (i:=h.Id) (n:=E) (by rw[z,R];exact V) (by rw[z,R,x];exact T)
 rw[z]at U O;have p:o.G=w.G:=by rw[g2,x]
 have c0:0≤h.ah:=Vr j.d.b0 j.c0;have ob:HO S ag o (cP.mk h.Id h.bg h.Term h.bn 0 m.cV t s C' h.bK h.bK):=by
  refine⟨j.d.r9 u (by rw[n2]) (by rw[U];rfl),Vr j.c0 h1,Z,?_,?_,?_⟩
  ·show C'≤(o.G.length:Int);have:h.ah≤(wa.G.length:Int):=j.cG;rw[p];rw[x]at this;rcases B with k|k<;>omega
  ·show(dW o.G t).take C'.toNat=o.G.take C'.toNat;rw[p];rcases B with k|⟨k1,k2⟩
   ·have:=j.cl;rw[x]at this;rw[k];exact this
   ·have X:((w.g.L h.Term).take E).length=E:=by rw[Y9];omega
    have z1:(dW w.G t).take C'.toNat=(w.g.L h.Term).take C'.toNat:=by
     rw[tj T (k:=C'.toNat) (by rw[X];omega),WH,YY (by omega)]
    have z2:(w.g.L h.Term).take C'.toNat=w.G.take C'.toNat:=by
     rw[tj C (k:=C'.toNat) (by rw[Y9];omega),WH,YY (by omega)]
    rw[z1,z2]
  ·rcases B with k|⟨k1,k2⟩
   ·have:CK ag o h.Term h.ah:=j.ck.ext u;show CK ag o h.Term C';rw[k];exact this
   ·exact((F.ext e).ext u).mono (YX _) (by show 0≤C';omega) k1
 refine⟨⟨o,e.trans u,k2,ob,kY.oJ (show(0:Int)≠1 by decide) (show(0:Int)≠2 by decide),Ev (zk (.inr rfl) A Q M.fr (by omega) J M.ne (λ q=>by cases q) λ _ _=>?_),.inl p⟩,cp,⟨hn.cf,y,h1⟩,rfl,by simp,Y,hq,by simp⟩
 rw[ha];exact Int.ofNat_le.2 O
def UA(hc:CO ag)(hn:HN ag h)(C:eC ag w)(o:HO S ag w h)(M:TK ag m h.Id)(hm:iA S ag w m)(hk:m.Kind=3)(A6:m.Term=h.Term)(hx:n.length≤7)(hq:q.length≤7):dh (C2 FF m h v n q []) λ r=>FR S ag w h.Id h.Trail h.bj h.ah r.1 [] n q r.2:=by
 have pR:=hc.lt _ hn.id;have t1:=hn.t1;have i1:=M.i1;have i0:=M.i0;have en:=M.en;have LU:=M.cm;obtain⟨y3,HX,p,c,hp,yW,V,H,H4,Q,J,F⟩:=hm.k3 hk;rw[A6]at y3 yW V H J F;have he:w.g.el h.Term≠0:=by rw[y3];exact HX
 have b0:=o.d.b0;have bG:=o.d.bG;have tl:=hn.tc.ok.last;have c0:=o.c0;have c1:=o.c1;have lG:=o.lG;have D5:=HO.nl C o;have DW:=C.inv.wl h.Term;have hB:=Ti C o he;have og:=o.alt 0 m.cV h.bK h.bK;unfold C2 zT;simp only[Y1];have hC:∀l E:Int,h.ah≤l→∃C',(if(if l<(if E<m.ah then E else m.ah)then l else(if E<m.ah then E else m.ah))>h.ah then(if l<(if E<m.ah then E else m.ah)then l else(if E<m.ah then E else m.ah))else h.ah)=C'∧h.ah≤C'∧C'≤l∧(C'=h.ah∨C'≤c∧C'≤E):=λ l E hl=>by
  refine⟨_,rfl,?_⟩;rw[H4]
  (repeat' split)<;>omega
 rcases hn.tc.put m.Index m.bM m.Entries h.ah (by omega) (by omega)with ⟨x,a1⟩|⟨A,a1,a2,a3⟩
 ·refine bJ a1 ?_;simp only[V2,Y4];refine bJ (uW (h:=cP.mk h.Id h.bg h.Term h.bn 0 m.cV h.Trail h.bj h.ah h.bK h.bK) hn.tc) (bJ (qN _ _ [] n q [] (by decide)) (.ret ?_))
  refine FR.send C og (kY.oJ (show(0:Int)≠1 by decide) (show(0:Int)≠2 by decide)) hn.cl (by simp) hx hq (zk (.inr rfl) pR hc M.fr (by show h.Term<_;omega) ?_ M.ne (λ q=>by cases q) λ _ q=>by cases q)
  show(if(if((0:Int)>IntKind.wrap IntKind.i64 (m.Index-1))then(0:Int)else IntKind.wrap IntKind.i64 (m.Index-1))<bQ h.Trail then(if((0:Int)>IntKind.wrap IntKind.i64 (m.Index-1))then(0:Int)else IntKind.wrap IntKind.i64 (m.Index-1))else bQ h.Trail)<9223372036854775808;rw[dj (by omega) (by omega)]
  unfold bQ at*;split<;>(try split)<;>omega
 ·refine bJ a1 ?_;simp only[YV,Y7,Ya];rw[dj (x:=m.Index+(m.Entries.length:Int)) (by omega) (by omega)]
  rcases a3 with ⟨rfl,a3⟩|⟨s,k,R⟩
  ·
   refine bJ (uW (h:=cP.mk h.Id h.bg h.Term h.bn 0 m.cV h.Trail h.bj h.ah h.bK h.bK) hn.tc) ?_;obtain⟨C',e1,f1,f2,f3⟩:=hC (bQ h.Trail) (m.Index+(m.Entries.length:Int)) c1;rw[e1];refine bJ (qN _ _ [] n q [] (by decide)) (.ret ?_)
   simp only;rw[if_pos a3];have hl:h.Trail.an.toNat≤(w.g.L h.Term).length:=by
    have:=YU List.length hB;rw[Y9,Y9]at this;unfold bQ at lG;omega
   exact zp hc hn M he (c:=c) (E:=h.Trail.an.toNat) (T0:=0) (Ext.refl ..) C rfl rfl og hl (by rw[←hB];exact Wp ..) (by omega) (by omega) Q J F f1 f2 (f3.imp id λ z=>⟨z.1,by omega⟩) (CP.same (Ext.refl ..) C rfl o.d) hn.cl.2.1 hx hq
  ·have s0:=R.s0;have sl:=R.sl;have kl:=R.kl;have Y:=R.at_;have D1:=tf Y;obtain⟨P,hP⟩:∃P:Nat,m.Index+(s:Int)=(P:Int):=⟨p+s,by omega⟩
   have hPe:P=p+s:=by omega
   obtain⟨d,hd⟩:∃d:Nat,d=(m.Index+(s:Int)-h.Trail.an).toNat:=⟨_,rfl⟩;have LI:P=h.Trail.an.toNat+d:=by omega
   have LS:∀j,m.Entries[j]? =none∨m.Entries[j]? =(w.g.L h.Term)[p+j]? :=λ j=>by
    by_cases z:j<m.Entries.length
    ·right;rw[EY H z,YP]
    ·left;exact Wn (by omega)
   have l1:(dW w.G h.Trail).take P=(w.g.L h.Term).take P:=by
    by_cases z:s=0
    ·subst z;rw[if_pos rfl]at Y;have U:=xA b0 bG o.d.bt Y;rw[hP,Yf]at U;have Rm:P=p:=by omega
     subst Rm;cases P with
     |zero=>simp
     |succ j=>
      have j1:=Y3 (show j<(w.g.L h.Term).length by omega)
      have j2:=Y3 (show j<(dW w.G h.Trail).length by unfold bQ at*;omega)
      rw[CG j2]at U;rw[CG j1]at V;exact D5.same DW j2 j1 (U.trans V)
    ·have:=R.s1.resolve_left z;rw[show P=h.Trail.an.toNat by omega];exact hB
   have l2:(dW w.G h.Trail).take (P+k)=(w.g.L h.Term).take (P+k):=by
    cases k with
    |zero=>exact l1
    |succ j=>
     obtain⟨x,y,x1,y1,xy⟩:=R.al j (Vo _);rw[YP,←hd]at x1;rw[YP]at y1;have z1:(dW w.G h.Trail)[P+j]? =some x:=by rw[LI,WW,B7 b0 bG];exact x1
     have z2:(w.g.L h.Term)[P+j]? =some y:=by
      rcases LS (s+j)with e|e
      ·rw[e]at y1;cases y1
      ·rw[←y1,e];congr 1;omega
     exact D5.same DW z1 z2 xy
   have hLl:p+m.Entries.length≤(w.g.L h.Term).length:=by have:=H.length_le;rw[Yw]at this;omega
   obtain⟨E,hE⟩:∃E:Nat,E=p+m.Entries.length:=⟨_,rfl⟩;have LL:m.Index+(m.Entries.length:Int)=(E:Int):=by omega
   rcases R.rs with ⟨r1,rfl⟩|⟨r1,r2,r3,r4,r5⟩
   ·
    refine bJ (uW (h:=cP.mk h.Id h.bg h.Term h.bn 0 m.cV h.Trail h.bj h.ah h.bK h.bK) hn.tc) ?_;obtain⟨C',e1,f1,f2,f3⟩:=hC (bQ h.Trail) (m.Index+(m.Entries.length:Int)) c1;rw[e1];refine bJ (qN _ _ [] n q [] (by decide)) (.ret ?_)
    simp only;rw[if_neg (by omega)]
    exact zp hc hn M he (c:=c) (E:=E) (T0:=0) (Ext.refl ..) C rfl rfl og (by omega) (by rw[show E=P+k by omega,←l2];exact Wp ..) LL (by omega) Q J F f1 f2 (f3.imp id λ z=>⟨z.1,by omega⟩) (CP.same (Ext.refl ..) C rfl o.d) hn.cl.2.1 hx hq
   ·
    rw[←hd]at r2 r3 r4 r5;have yR:=R.tc;have Bl:∀u:Nat,dW w.G (ca.mk h.Trail.an h.Trail.au (A.Entries.take (d+k+u)))=(w.g.L h.Term).take (min (P+k+u) E):=λ u=>by
     rw[r2];simp only;have e1:(h.Trail.Entries.take (d+k)++m.Entries.drop (s+k)).take (d+k+u)=h.Trail.Entries.take (d+k)++(m.Entries.drop (s+k)).take u:=by
      rw[Ud,Yk (by rw[Y9];omega),Y9,YY r4];congr 2;omega
     have e2:w.G.take h.Trail.an.toNat++h.Trail.Entries.take (d+k)=(w.g.L h.Term).take (P+k):=by
      rw[←l2];have gl:(w.G.take h.Trail.an.toNat).length=h.Trail.an.toNat:=by rw[Y9];omega
      unfold dW;rw[Ud,Yk (l:=w.G.take h.Trail.an.toNat) (by omega),gl];congr 2;omega
     unfold dW;simp only;rw[e1,←Yo,e2];have B:(m.Entries.drop (s+k)).take u=((w.g.L h.Term).drop (P+k)).take (min u (E-(P+k))):=by
      have:=(List.prefix_iff_eq_take.1 H);rw[this,List.drop_take,WX,WH];congr 1
      ·omega
      ·congr 1;omega
     rw[B,←List.take_add];congr 1;omega
    have Lt:∀g:Lg,g<+:dW w.G h.Trail→g<+:w.g.L h.Term→g.length≤P+k:=λ g Z X=>by
     refine Nat.not_lt.1 λ z=>?_;obtain⟨a,x1⟩:∃a,g[P+k]? =some a:=⟨_,Y3 (show P+k<g.length from z)⟩
     have x2:=B4 Z x1;have x3:=B4 X x1;rw[LI,WW,B7 b0 bG]at x2;have y1:m.Entries[s+k]? =some a:=by
      rcases LS (s+k)with e|e
      ·have:=List.getElem?_eq_none_iff.1 e;omega
      ·rw[e,←x3];congr 1;omega
     exact r5 _ _ x2 y1 rfl
    have O:∀u:Nat,∃w',Ext h.Id w w'∧eC ag w'∧w'.G=w.G∧w'.g=w.g∧jI S ag w' h.Id h.Term h.bn (ca.mk h.Trail.an h.Trail.au (A.Entries.take (d+k+u))) h.bj:=λ u=>by
     have hN:w.N h.Id=⟨h.Term,dW w.G h.Trail⟩:=o.d.n;obtain⟨w',e1,e2,B,e4,e5⟩:=C.follow (i:=h.Id) (l:=(w.g.L h.Term).take (min (P+k+u) E)) (by rw[hN];exact he) (by rw[hN];exact Wp ..) (λ g Z X=>by
      rw[hN]at Z X;exact uM X (Wp ..) (by have:=Lt g Z X;rw[Y9];omega))
     rw[hN]at e4;exact⟨w',e1,e2,B,e5,⟨by rw[e4,B,Bl u],by rw[e5];exact o.d.vt,b0,by rw[B];exact bG,by rw[B];exact o.d.bt,o.d.ck.ext e1,by rw[B];exact o.d.sn⟩⟩
    have QF:A.Entries.length=d+k+(m.Entries.length-(s+k)):=by rw[r2];simp;omega
    obtain⟨wa,e1,e2,B,e4,e5⟩:=O (m.Entries.length-(s+k));have tE:ca.mk h.Trail.an h.Trail.au (A.Entries.take (d+k+(m.Entries.length-(s+k))))=A:=by
     rw[Yk (by omega),r2]
    rw[tE]at e5;have T:=Bl (m.Entries.length-(s+k));rw[tE,show min (P+k+(m.Entries.length-(s+k))) E=E by omega]at T
    have hte:bQ A=(E:Int):=by unfold bQ;rw[QF,r2];simp only;omega
    have oa:HO S ag wa (cP.mk h.Id h.bg h.Term h.bn 0 m.cV A h.bj h.ah h.bK h.bK):=by
     refine⟨e5,by show A.an≤_;rw[r2];exact c0,by show h.ah≤bQ A;omega,by rw[B];exact o.cG,?_,o.ck.ext e1⟩
     show(dW wa.G A).take h.ah.toNat=wa.G.take h.ah.toNat;have z:(dW w.G h.Trail).take h.ah.toNat=(w.g.L h.Term).take h.ah.toNat:=by
      have:=YU (λ l=>List.take h.ah.toNat l) l2;simp only[WH]at this
      rwa [YY (by omega)]at this
     rw[B,T,WH,YY (by omega),←z];exact o.cl
    refine bJ (uW (h:=cP.mk h.Id h.bg h.Term h.bn 0 m.cV A h.bj h.ah h.bK h.bK) yR) ?_;obtain⟨C',e6,f1,f2,f3⟩:=hC (bQ A) (m.Index+(m.Entries.length:Int)) (by omega)
    rw[e6];refine bJ (qN _ _ [] n q [] (by decide)) (.ret ?_)
    simp only;rw[if_neg (by rw[r2];simp only;omega)]
    refine zp hc hn M he (c:=c) (E:=E) (T0:=0) e1 e2 B e4 oa (by omega) (by rw[T];exact YH _) LL (by omega) Q J F f1 f2 (f3.imp id λ z=>⟨z.1,by omega⟩) ⟨⟨w,Ext.refl ..,C,rfl,o.d⟩,λ _ _ _ u q1 q2=>?_,λ z=>absurd ⟨by rw[r2],by rw[r2],rfl⟩ z⟩ (by have:=yR.ok.len;omega) hx hq
    have:=q2 (d+k) (by omega) (by omega) (by rw[r2];simp only;rw[W4 (by rw[Y9];omega),WH,Nat.min_self])
    obtain⟨w',Z,X,g3,g4,g5⟩:=O (u-(d+k));rw[show d+k+(u-(d+k))=u by omega]at g5
    exact⟨w',Z,X,g3,g5⟩
end
section
variable {S:Lg→aj→Prop}{ag:aa}{w wa:Wd}{h:cP}{v n q:aa}{m:cj}
def Zh(hc:CO ag)(hn:HN ag h)(M:eC ag w)(o:HO S ag w h)(ht:TK ag m h.Id)(hm:iA S ag w m)(hk:m.Kind=5)(A6:m.Term=h.Term)(V:n.length≤7)(hq:q.length≤7):dh (Dl FF m h v n q []) λ r=>FR S ag w h.Id h.Trail h.bj h.ah r.1 [] n q r.2:=by
 have t1:=hn.t1;have i1:=ht.i1;have i0:=ht.i0;obtain⟨X,HX,p,A,Z,C,O,hS,B⟩:=hm.k5 hk;rw[A6]at X C B;have he:w.g.el h.Term≠0:=by rw[X];exact HX
 have b0:=o.d.b0;have bG:=o.d.bG;have tl:=hn.tc.ok.last;have c0:=o.c0;have c1:=o.c1;have lG:=o.lG;have cG:=o.cG;have D5:=HO.nl M o;have DW:=M.inv.wl h.Term;have og:=o.alt 0 m.cV h.bK h.bK;have yW:p≤(w.g.L h.Term).length:=by have:=C.length_le;rw[Y9]at this;omega
 have F:w.G.take p=(w.g.L h.Term).take p:=(EM C (by rw[Y9];omega)).symm
 unfold Dl zT;simp only[Y1];refine bh (Q:=λ g:cP=>FR S ag w h.Id h.Trail h.bj h.ah g [] n q ([]++[cj.mk 4 h.Id m.cV h.Term g.ah 0 0 true [] []])∧g.Id=h.Id∧g.Term=h.Term) ?_ λ g _ hg=>by
  obtain⟨g1,g2,g3⟩:=hg;refine bJ (qN _ g [] n q [] (by decide)) (.ret ?_)
  rw[g2,g3];exact g1
 refine cq (λ z=>?_) λ z=>.ret ⟨?_,rfl,rfl⟩
 ·rw[hn.tc.kB,Y1];have iZ:gp h.Trail m.Index=some m.bM→(dW w.G h.Trail).take p=w.G.take p:=λ V=>by
   have hr:=tf V;have e1:=xA b0 bG o.d.bt V;rw[A,Yf]at e1;obtain⟨j,rfl⟩:∃j,p=j+1:=⟨p-1,by omega⟩
   have j1:=Y3 (show j<(w.g.L h.Term).length by omega)
   have j2:=Y3 (show j<(dW w.G h.Trail).length by omega)
   rw[CG j2]at e1;rw[F,CG j1]at O;rw[F];exact D5.same DW j2 j1 (e1.trans O)
  by_cases u:gp h.Trail m.Index=some m.bM
  ·
   have np:=hn.tc.cut u;rw[u];simp only[YS,Y4,YJ,WS,Y1];refine bh (Q:=λ y=>y=(m.Index,m.bM,(dZ h.Trail m.Index m.bM).Entries)) (bJ np (.ret rfl)) λ y _ hy=>?_;subst hy
   refine .ret ⟨?_,rfl,rfl⟩;have hr:=tf u;have e1:=iZ u;have Bl:dW w.G (dZ h.Trail m.Index m.bM)=dW w.G h.Trail:=I0 b0 bG hr.1 (by rw[A,Yf];exact e1)
   have d':jI S ag w h.Id h.Term h.bn (dZ h.Trail m.Index m.bM) m.Data:=Ms o.d u (by omega) (by rw[A,Yf];exact e1) (by rw[A];exact B) (by rw[A,Yf];exact hS)
   have U:bQ (dZ h.Trail m.Index m.bM)=bQ h.Trail:=Nj _ hr;have oa:HO S ag w (cP.mk h.Id h.bg h.Term h.bn 0 m.cV (dZ h.Trail m.Index m.bM) m.Data m.Index h.bK h.bK):=
    ⟨d',YX _,by show m.Index≤bQ (dZ h.Trail m.Index m.bM);omega,by show m.Index≤_;omega,by show(dW w.G (dZ h.Trail m.Index m.bM)).take m.Index.toNat=w.G.take m.Index.toNat;rw[Bl,A,Yf];exact e1,by show CK ag w h.Term m.Index;rw[A];exact B⟩
   refine FR.low ?_ (Int.le_of_lt (show h.ah<m.Index by omega))
   exact zp (h:=cP.mk h.Id h.bg h.Term h.bn h.bE h.bo h.Trail h.bj m.Index h.Left h.bK) hc ⟨hn.cf,hn.id,hn.t0,hn.t1,hn.tc⟩ ht he (c:=p) (E:=p) (T0:=0) (Ext.refl ..) M rfl rfl oa yW (by show(w.g.L h.Term).take p<+:dW w.G (dZ h.Trail m.Index m.bM);rw[Bl,←F,←e1];exact Wp ..) A (by show m.Index<_;omega) Z C B (YX _) (by show m.Index≤bQ (dZ h.Trail m.Index m.bM);omega) (.inl rfl) (CP.cut (Ext.refl ..) M rfl o.d d' u) (by have:=hn.tc.ok.len;show(List.drop _ h.Trail.Entries).length≤_;rw[Yw];omega) V hq
  ·
   have hb:(Option.bind (bif (gp h.Trail m.Index).isSome then some ((gp h.Trail m.Index).getD 0==m.bM)else some false) λ(R:Bool)=>
    Option.bind (bif R then Option.bind (sq FF h.Trail m.Index) λ J=>some (J.1.an,J.1.au,J.1.Entries)else some (m.Index,m.bM,([]:List bx))) λ(x:Int×Int×List bx)=>some (cP.mk h.Id h.bg h.Term h.bn 0 m.cV (ca.mk x.1 x.2.1 x.2.2) m.Data m.Index h.bK h.bK))=some (cP.mk h.Id h.bg h.Term h.bn 0 m.cV (ca.mk m.Index m.bM []) m.Data m.Index h.bK h.bK):=by
    cases e:gp h.Trail m.Index with
    |none=>rfl
    |some x=>
     have:(x==m.bM)=false:=by
      rw[beq_eq_false_iff_ne];intro k;exact u (by rw[e,k])
     simp[this]
   refine dh.mono (P:=λ g=>FR S ag w h.Id h.Trail h.bj h.ah g [] n q ([]++[cj.mk 4 h.Id m.cV h.Term g.ah 0 0 true [] []])∧g.Id=h.Id∧g.Term=h.Term) ⟨_,hb,rfl⟩ λ g hg=>?_;subst hg
   refine⟨?_,rfl,rfl⟩;have hN:w.N h.Id=⟨h.Term,dW w.G h.Trail⟩:=o.d.n;have H:dW w.G (ca.mk m.Index m.bM [])=w.G.take p:=by unfold dW;simp[A]
   obtain⟨w',e1,e2,T,e4,e5⟩:=M.follow (i:=h.Id) (l:=w.G.take p) (by rw[hN];exact he) (by rw[hN];exact C) (λ g g1 g2=>by
    rw[hN]at g1 g2;refine uM g2 C ?_;refine Nat.not_lt.1 λ k=>u ?_;rw[Y9,YY (by omega)]at k
    have l1:g.length≤(dW w.G h.Trail).length:=g1.length_le;obtain⟨x,Y⟩:=rr b0 bG (show h.Trail.an≤m.Index∧m.Index≤bQ h.Trail by omega)
    have z1:=xA b0 bG o.d.bt Y;rw[A,Yf,tj g1 (by omega),←tj g2 (by omega:p≤g.length),←F,←O]at z1
    rw[Y,z1])
   rw[hN]at e4;have d':jI S ag w' h.Id h.Term h.bn (ca.mk m.Index m.bM []) m.Data:=⟨by rw[e4,T,H],by rw[e5];exact o.d.vt,i0,by rw[T];show m.Index≤_;omega,by rw[T];show m.bM=dH (w.G.take m.Index.toNat);rw[A,Yf];exact O,by show CK ag w' h.Term m.Index;rw[A];exact B.ext e1,by rw[T];show S (w.G.take m.Index.toNat) _;rw[A,Yf];exact hS⟩
   have U:bQ (ca.mk m.Index m.bM [])=m.Index:=by unfold bQ;simp
   have oa:HO S ag w' (cP.mk h.Id h.bg h.Term h.bn 0 m.cV (ca.mk m.Index m.bM []) m.Data m.Index h.bK h.bK):=
    ⟨d',YX _,by show m.Index≤bQ _;rw[U];exact YX _,by rw[T];show m.Index≤_;omega,by show(dW w'.G _).take m.Index.toNat=w'.G.take m.Index.toNat;rw[T,H,A,Yf,WH,Nat.min_self],by show CK ag w' h.Term m.Index;rw[A];exact B.ext e1⟩
   refine FR.low ?_ (Int.le_of_lt (show h.ah<m.Index by omega))
   refine zp (h:=cP.mk h.Id h.bg h.Term h.bn h.bE h.bo h.Trail h.bj m.Index h.Left h.bK) hc ⟨hn.cf,hn.id,hn.t0,hn.t1,hn.tc⟩ ht he (c:=p) (E:=p) (T0:=0) e1 e2 T e5 oa yW (by rw[H,F];exact YH _) A (by show m.Index<_;omega) Z C B (YX _) (by rw[U];exact YX _) (.inl rfl) ⟨⟨w,Ext.refl ..,M,rfl,o.d⟩,λ k=>absurd (show m.Index=h.Trail.an from k) (by omega),λ _=>⟨?_,w',e1,e2,T,d'⟩⟩ (by simp) V hq
   rw[if_neg (show¬gp h.Trail m.Index=some m.bM from u)]
 ·have iG:=vP M o.ck he cG;have hl:h.ah.toNat≤(w.g.L h.Term).length:=by have:=iG.length_le;rw[Y9]at this;omega
  have e1:(w.g.L h.Term).take h.ah.toNat=w.G.take h.ah.toNat:=EM iG (by rw[Y9];omega)
  exact zp hc hn ht he (c:=0) (E:=h.ah.toNat) (T0:=0) (Ext.refl ..) M rfl rfl og hl (by rw[e1,←o.cl];exact Wp ..) (by show h.ah=_;omega) (by show h.ah<_;unfold bQ at c1;omega) (YL _) (by simp) (.inl rfl) (YX _) c1 (.inl rfl) (CP.same (Ext.refl ..) M rfl o.d) hn.cl.2.1 V hq
end
section
variable {S:Lg→aj→Prop}{ag:aa}{w wa:Wd}{h:cP}{v n q:aa}{m:cj}
def lM.set{k:Nat}{i a b:Int}(l:lM ag w h n q)(hc:CO ag)(u:ag[k]? =some i)(p:i≠h.Id)(h1:0≤a)(H:a≤(w.g.ac i h.Term:Int))(E:a≤bQ h.Trail)(M:a<b)(B:b≤bQ h.Trail+1):lM ag w h (n.set k b) (q.set k a):=by
 refine⟨l.el,l.lg,by rw[Vu];exact l.nl,by rw[Vu];exact l.ml,λ j c x y c1 J A=>?_,λ j c1=>?_,l.t1⟩
 ·rcases uN J with ⟨rfl,rfl⟩|⟨O,F⟩
  ·rcases uN A with ⟨-,rfl⟩|⟨z, -⟩
   ·rw[u]at c1;cases c1;exact⟨h1,H,E,M,B⟩
   ·exact absurd rfl z
  ·rcases uN A with ⟨z, -⟩|⟨-,C⟩
   ·exact absurd z O
   ·exact l.nm j c x y c1 F C
 ·have o:j≠k:=λ e=>by subst e;rw[u]at c1;cases c1;exact p rfl
  rw[List.getElem?_set_ne (λ e=>o e.symm)];exact l.ow j c1
def Um(C:CO ag)(hn:HN ag h)(F:eC ag w)(o:HO S ag w h)(ro:kY ag w h v n q)(u:TK ag m h.Id)(hm:iA S ag w m)(hk:m.Kind=4)(X:m.Term=h.Term)(J:v.length≤100)(H:n.length≤7)(M:q.length≤7):dh (C4 FF m h v n q []) λ r=>FR S ag w h.Id h.Trail h.bj h.ah r.1 r.2.1 r.2.2.1 r.2.2.2.1 r.2.2.2.2:=by
 have h7:=C.ok.n7;have i1:=u.i1;have i0:=u.i0;have b0:=o.d.b0;have tl:=hn.tc.ok.last;unfold C4;refine bh (Q:=λ b=>b=false→h.bE=2∧m.Index≤bQ h.Trail) (bu (λ _=>.ret (by simp)) λ e=>bJ (uW hn.tc) (.ret λ q=>⟨by simpa using e,by have:=Wb q;omega⟩)) λ b _ hb=>bu (λ _=>.ret (FR.base F o ro hn.cl J H M)) λ e=>?_
 obtain⟨r2,hle⟩:=hb e;obtain⟨ld,af⟩:=ro.r2 r2;have e1:=ld.nl;have e2:=ld.ml;rw[hn.cf];refine bh (JO ag m.cV (by omega)) λ i _ U=>?_
 have p:=U.2.2.2 u.fr;have j1:=U.2.1;have B:=U.2.2.1 p;obtain⟨k,rfl⟩:∃k:Nat,i=(k:Int):=⟨i.toNat,by omega⟩
 rw[Yf]at B;simp only[Yf];obtain⟨a,ha⟩:∃a,n[k]? =some a:=⟨_,Y3 (by omega)⟩
 obtain⟨c,A⟩:∃c,q[k]? =some c:=⟨_,Y3 (by omega)⟩
 obtain⟨u1,u2,u3,u4,u5⟩:=ld.nm k _ _ _ B A ha;have hE:bQ h.Trail≤1099511627776:=tl;rw[ha,A];simp only[Y1];refine bu (λ _=>?_) λ y=>?_
 ·refine bV p (bV p (bV p ?_));rw[dj (x:=c+1) (by omega) (by omega),dj (x:=a-1) (by omega) (by omega),dj (x:=m.Index+1) (by omega) (by omega)]
  generalize hg:(if c+1>(if a-1<m.Index+1 then a-1 else m.Index+1)then c+1 else(if a-1<m.Index+1 then a-1 else m.Index+1))=g;have j:c<g∧g≤bQ h.Trail+1:=by subst hg;split<;>(try split)<;>omega
  have l2:=ld.set C B u.ne u1 u2 u3 j.1 j.2;rw[show q.set k c=q by rw[←(Ys.1 A).2,List.set_getElem_self]]at l2
  refine bh (I4 C hn o l2 (by simp) B u.ne) λ r _ O=>.ret ?_
  obtain⟨r1,x,V,r4⟩:=O;rw[r1,V];exact FR.send F o ⟨(λ z=>by rw[r2]at z;cases z),λ _=>⟨l2,af⟩⟩ hn.cl J (by simpa using H) M r4
 ·have y:m.mc=true:=by simpa using y
  have T:=hm.k4 hk y;rw[X]at T;refine bV p (bV p (bV p ?_));generalize hg:(if m.Index>c then m.Index else c)=g;have j:0≤g∧g≤(w.g.ac m.cV h.Term:Int)∧g≤bQ h.Trail:=by subst hg;split<;>omega
  rw[Vg (by omega)]
  simp only[Y1];refine bV p ?_;rw[dj (x:=g+1) (by omega) (by omega)]
  have l2:=ld.set C B u.ne j.1 j.2.1 j.2.2 (Int.lt_succ g) (by omega)
  refine bh (Jb C hn F o l2) λ s _ hs=>?_;obtain⟨wb,R,rfl,e3,k3,g3,Y,l3,a3, -,a5⟩:=hs
  have Z:HN ag (hC h R):=⟨hn.cf,hn.id,hn.t0,hn.t1,hn.tc⟩;have E:kY ag wb (hC h R) v (n.set k (g+1)) (q.set k g):=⟨λ z=>absurd (show h.bE=1 from z) (by rw[r2];decide),λ _=>⟨l3,a3⟩⟩
  rw[Vg (by omega)]
  simp only[Y1];have cp:=CP.same (Ext.refl h.Id w) F rfl o.d;refine bV p (bJ (uW (h:=hC h R) hn.tc) (cq (λ _=>?_) λ _=>.ret ⟨⟨wb,e3,k3,Y,E,(λ m z=>by cases z),g3⟩,cp,⟨hn.cf,hn.cl.2.1,a5⟩,rfl,J,by simpa using H,by simpa using M,by simp⟩))
  refine bh (I4 C Z Y l3 (by simp) B u.ne) λ r _ O=>.ret ?_
  obtain⟨r1,x,V,r4⟩:=O;rw[r1,V];exact⟨⟨wb,e3,k3,Y,E,Ev r4,g3⟩,cp,⟨hn.cf,hn.cl.2.1,a5⟩,rfl,J,by simpa using H,by simpa using M,by simp⟩
end
section
variable {S:Lg→aj→Prop}{ag:aa}{w:Wd}{r:bD}
def ZqY(E:CO ag)(M:eC ag w)(n:NO S ag w r)(m:cj)(X:iA S ag w m):dh (CA FF r m) (Qq S ag w r False):=by
 have y:=n.rk.nm;have U:=n.rk.ok.vo.1;unfold CA;refine bJ (E0 r n.rk.small) ?_;have base:FR S ag w r.Id r.Trail r.bj r.ah (hd r) r.bO r.Next r.Match []:=FR.base M n.ho n.ro n.hn.cl (by omega) y.1 y.2
 refine bh (Q:=λ b=>b=false→TK ag m r.Id) (bJ n.rk.ck ?_) λ b _ Y=>bu (λ _=>.ret ⟨hd r,r.bO,r.Next,r.Match,[],rfl,base,λ z=>z.elim⟩) λ e=>?_
 ·simp only[YV,Y7];exact bh (Zw m E n.hn []) λ d _ hd=>.ret λ q=>hd (by simpa using q)
 have O:=Y e;refine bh (Q:=λ s:cP×aa×aa×aa=>∃wa,Ext r.Id w wa∧eC ag wa∧wa.G=w.G∧HO S ag wa s.1∧kY ag wa s.1 s.2.1 s.2.2.1 s.2.2.2∧HN ag s.1∧s.1.Id=r.Id∧s.1.Trail=r.Trail∧s.1.bj=r.bj∧s.1.ah=r.ah∧m.Term≤s.1.Term∧s.2.1.length≤7∧s.2.2.1.length≤7∧s.2.2.2.length≤7) ?_ λ s _ i=>?_
 ·refine cq (λ z=>.ret ?_) λ z=>.ret ⟨w,Ext.refl ..,M,rfl,n.ho,n.ro,n.hn,rfl,rfl,rfl,rfl,by show m.Term≤r.Term;have:¬r.Term<m.Term:=z;omega,U,y.1,y.2⟩
  obtain⟨wa,e1,k1,R,q1,n1,x⟩:=Nb M n.ho m.Term z 0 0 r.Left r.bK;exact⟨wa,e1,k1,R,x,kY.oJ (show(0:Int)≠1 by decide) (show(0:Int)≠2 by decide),⟨n.cf,n.hn.id,by show 0≤m.Term;have:=O.t0;omega,O.tm,n.hn.tc⟩,rfl,rfl,rfl,rfl,YX _,by simp,by simp,by simp⟩
 obtain⟨h,v,nx,mt⟩:=s;obtain⟨wa,ex,k1,R,x,ro,hn,C,H,J,F,T,V,B,A⟩:=i;simp only at x ro hn C H J F T V B A⊢;have j:TK ag m h.Id:=by rw[C];exact O
 have u:=X.ext ex;have fin:∀{g:cP} {v n q:aa} {out:List cj},FR S ag wa h.Id h.Trail h.bj h.ah g v n q out→FR S ag w r.Id r.Trail r.bj r.ah g v n q out:=λ f=>by
  rw[C,H,J,F]at f;exact f.after ex R
 refine cq (λ _=>bh (UO E hn k1 x ro j (by omega) B A) λ s _ i=>.ret ⟨s.1,s.2.1,s.2.2.1,s.2.2.2.1,s.2.2.2.2,rfl,fin i,λ z=>z.elim⟩) λ nl=>?_
 have p:m.Term=h.Term:=by omega
 refine bh (Q:=λ s:cP×aa×aa×aa×List cj=>FR S ag wa h.Id h.Trail h.bj h.ah s.1 s.2.1 s.2.2.1 s.2.2.2.1 s.2.2.2.2) ?_ λ s _ i=>.ret ⟨s.1,s.2.1,s.2.2.1,s.2.2.2.1,s.2.2.2.2,rfl,fin i,λ z=>z.elim⟩;have same:FR S ag wa h.Id h.Trail h.bj h.ah h v nx mt []:=FR.base k1 x ro hn.cl (by omega) B A
 refine bu (λ q=>bh (Uo E hn k1 x ro j u (by simpa using q) p (by omega) B A) λ s _ i=>.ret i) λ _=>bu (λ q=>?_) λ _=>bu (λ q=>bh (Um E hn k1 x ro j u (by simpa using q) p (by omega) B A) λ s _ i=>.ret i) λ _=>bu (λ _=>.ret same) λ _=>bu (λ q=>bh (UA E hn k1 x j u (by simpa using q) p B A) λ s _ i=>.ret i) λ _=>bu (λ q=>bh (Zh E hn k1 x j u (by simpa using q) p B A) λ s _ i=>.ret i) λ _=>.ret same
 refine bh (Xz E hn k1 x ro j u (by simpa using q) p (by omega) B A) λ o _ ho=>?_
 rcases o with a|b
 ·exact .ret (ho.1 a rfl)
 ·exact .ret (ho.2 b rfl)
end
end Go.T
