import Derived.Test.YtjpmdkgonlmddaaGreatDoorLE
set_option linter.defProp false
set_option linter.unusedVariables false
namespace Go.T
open Go Go.Ab
abbrev Lg:=List bx
structure Gh where
 L:Int→Lg
 el:Int→Int
 D:Int→Int→Option Lg
 vt:Int→Int→Int
 ac:Int→Int→Nat
structure Nd where
 tm:Int
 lg:Lg
def Qm(ag A:aa):Prop:=A.Nodup∧(∀x∈A,x∈ag)∧ag.length<2*A.length
def I7:∀(l c:aa),l.Nodup→(∀x∈l,x∈c)→l.length≤c.length
 | [],c,_,_=>YL _
 |a::l,c,h,hs=>by
  rw[VA]at h;have h1:=hs a (Yp ..);have:=I7 l (c.erase a) h.2 λ x i=>(List.mem_erase_of_ne (λ e:x=a=>h.1 (e▸i))).2 (hs x (Yn _ i));rw[List.length_erase_of_mem h1]at this
  have:=List.length_pos_of_mem h1;simp only[Yh];omega
def Qm.meet{ag A B:aa}(j:Qm ag A)(i:Qm ag B):∃v∈A,v∈B:=by
 refine V5 λ q=>?_;have h1:=j.2.2;have h2:=i.2.2
 have:=I7 (A++B) ag (VF.2 ⟨j.1,i.1,λ a u b p e=>q ⟨a,u,e▸p⟩⟩) λ x o=>(YA.1 o).elim (j.2.1 x) (i.2.1 x);rw[Y8]at this;omega
def WL(L:Int→Lg)(T:Int)(l:Lg):Prop:=∀k e,l[k]? =some e→1≤e.Term∧e.Term≤T∧l.take (k+1) <+:L e.Term
section
variable (ag:aa)(g:Gh)(N:Int→Nd)
def ch(T:Int)(m:Nat):Prop:=(∃e,(g.L T)[m]? =some e∧e.Term=T)∧∃A,Qm ag A∧∀i∈A,m<g.ac i T∨(N i).tm≤T
structure Inv:Prop where
 wl:∀T,WL g.L T (g.L T)
 e0:∀T,g.el T=0→g.L T=[]
 es:∀T,g.el T≠0→∃V d,Qm ag V∧(∀v∈V,g.vt v T=g.el T)∧g.D T (g.el T)=some d∧d<+:g.L T
 nl:∀i,WL g.L (N i).tm (N i).lg
 dl:∀T c d,g.D T c=some d→T≤(N c).tm∧WL g.L (T-1) d
 v0:∀v T,(N v).tm<T→g.vt v T=0
 vd:∀v T,g.vt v T≠0→∃d,g.D T (g.vt v T)=some d∧∀T0 m,T0<T→m<g.ac v T0→ch ag g N T0 m→(g.L T0).take (m+1) <+:d
 a0:∀v T,g.ac v T≤(g.L T).length∧((N v).tm<T→g.ac v T=0)
 aq:∀v T m,m<g.ac v T→T=(N v).tm∨ch ag g N T m→(g.L T).take (m+1) <+:(N v).lg
 pp:∀T0 T m,T0<T→g.el T≠0→ch ag g N T0 m→(g.L T0).take (m+1) <+:g.L T
end
def up{α:Type}(f:Int→α)(i:Int)(x:α):Int→α:=λ j=>if j=i then x else f j
def qe{α:Type}(f:Int→α)(i:Int)(x:α):up f i x i=x:=if_pos rfl
def gU{α:Type}(f:Int→α){i j:Int}(x:α)(h:j≠i):up f i x j=f j:=if_neg h
def WL.mono{L L':Int→Lg}{T T':Int}{l:Lg}(h:WL L T l)(hT:T≤T')(i:∀T,L T<+:L' T):WL L' T' l:=λ k e j=>by
 obtain⟨a,b,c⟩:=h k e j;exact⟨a,by omega,c.trans (i _)⟩
def WL.take{L:Int→Lg}{T:Int}{l p:Lg}(h:WL L T l)(j:p<+:l):WL L T p:=λ k e o=>by
 have q:=(Ys.1 o).1;have i:l[k]? =some e:=by rw[←o];obtain⟨r,rfl⟩:=j;rw[Yt q]
 obtain⟨a,b,c⟩:=h k e i;refine⟨a,b,?_⟩;rwa [show p.take (k+1)=l.take (k+1)from by obtain⟨r,rfl⟩:=j;rw[W4 (by omega)]]
def zq{α:Type}(l:List α)(k:Nat):l.take k<+:l:=Wp k l
def B4{p l:Lg}(i:p<+:l){k:Nat}{e:bx}(h:p[k]? =some e):l[k]? =some e:=by
 obtain⟨r,rfl⟩:=i;rw[Yt (Ys.1 h).1,h]
def EY{p l:Lg}(j:p<+:l){k:Nat}(i:k<p.length):p[k]? =l[k]? :=by
 obtain⟨r,rfl⟩:=j;rw[Yt i]
def uM{a b c:Lg}(h1:a<+:c)(i:b<+:c)(h:a.length≤b.length):a<+:b:=WP h1 i h
def WL.same{L:Int→Lg}{T1 T2:Int}{l d:Lg}(h1:WL L T1 l)(p:WL L T2 d){k:Nat}{a b:bx}(j:l[k]? =some a)(i:d[k]? =some b)(o:a.Term=b.Term):l.take (k+1)=d.take (k+1):=by
 have x:=(h1 k a j).2.2;have y:=(p k b i).2.2;rw[o]at x;have e1:=(Ys.1 j).1;have e2:=(Ys.1 i).1;exact(uM x y (by simp;omega)).eq_of_length (by simp;omega)
def dH(l:Lg):Int:=match l.getLast? with|none=>0|some e=>e.Term
def JQ{l:Lg}{k:Nat}{e:bx}(h:l[k]? =some e)(i:l.length=k+1):dH l=e.Term:=by
 unfold dH;rw[List.getLast?_eq_getElem?,i,Nat.add_sub_cancel,h]
section
variable {ag:aa}{g:Gh}{N:Int→Nd}
def Inv.rn(h:Inv ag g N){T1 T2 T0:Int}{l d:Lg}{m:Nat}(z:WL g.L T1 l)(hd:WL g.L T2 d)(hn:dH l<dH d∨dH d=dH l∧l.length≤d.length)
 (M:ch ag g N T0 m) (H:(g.L T0).take (m+1) <+:l):(g.L T0).take (m+1) <+:d:=by
 obtain⟨e,O,ht⟩:=M.1;have hm:=(Ys.1 O).1;have C:((g.L T0).take (m+1)).length=m+1:=by rw[Y9];omega
 have A:=H.length_le;rw[C]at A;obtain⟨k,y⟩:∃k,l.length=k+1:=⟨l.length-1,by omega⟩
 obtain⟨a,x⟩:∃a,l[k]? =some a:=⟨l[k],Y3 (by omega)⟩
 have u:=JQ x y;have h0:T0≤a.Term:=by
  have h1:=(z k a x).2.2;have B:(g.L a.Term)[m]? =some e:=B4 (H.trans (by rw[←W7 (l:=l),y];exact h1)) (by rw[WU (by omega)];exact O)
  have:=(h.wl _ m e B).2.1;omega
 have h1:=(z k a x).1;have o:d≠[]:=by
  rintro rfl;rw[show dH ([]:Lg)=0 from rfl,u,Yx]at hn
  omega
 obtain⟨j,hj⟩:∃j,d.length=j+1:=⟨d.length-1,by have:=Vc.2 o;omega⟩
 obtain⟨b,J⟩:∃b,d[j]? =some b:=⟨d[j],Y3 (by omega)⟩
 have F:=JQ J hj;have p:=(z k a x).2.2;have i:=(hd j b J).2.2;rw[←y,W7]at p;rw[←hj,W7]at i;rw[u,F]at hn;rcases hn with hn|⟨hn,E⟩
 ·have Q:=h.pp T0 b.Term m (by omega) (λ q=>by rw[h.e0 _ q]at i;exact o (List.prefix_nil.1 i)) M
  refine uM Q i ?_;rw[C];by_cases q:m+1≤d.length
  ·exact q
  ·exfalso;have B:(g.L T0)[j]? =some b:=by
    have:=B4 i J;rw[←EY Q (by rw[C];omega),WU (by omega)]at this
    exact this
   have:=(h.wl _ j b B).2.1;omega
 ·rw[hn]at i;exact H.trans (uM p i E)
end
structure Gr(g g':Gh)(N N':Int→Nd):Prop where
 tm:∀i,(N i).tm≤(N' i).tm
 L:∀T,g.L T<+:g'.L T
 ac:∀i T m,m<g'.ac i T→m<g.ac i T∨(N i).tm≤T
section
variable {ag:aa}{g g':Gh}{N N':Int→Nd}
def ch.back{T:Int}{m:Nat}(j:Gr g g' N N')(h:ch ag g' N' T m)(o:m<(g.L T).length):ch ag g N T m:=by
 obtain⟨⟨e,u,p⟩,A,x,z⟩:=h;refine⟨⟨e,by rw[EY (j.L T) o];exact u,p⟩,A,x,λ i y=>?_⟩
 rcases z i y with q|q
 ·exact j.ac i T m q
 ·exact .inr (Vr (j.tm i) q)
def tj{p l:Lg}(h:p<+:l){k:Nat}(i:k≤p.length):l.take k=p.take k:=by
 obtain⟨r,rfl⟩:=h;rw[W4 i]
def ch.lt{T:Int}{m:Nat}(h:ch ag g N T m):m<(g.L T).length:=by
 obtain⟨⟨e,i, -⟩, -⟩:=h;exact(Ys.1 i).1
def Aw{i j:Int}{x:Nd}{P:Nd→Prop}(h1:j=i→P x)(o:j≠i→P (N j)):P (up N i x j):=by
 unfold up;split
 ·exact h1 ‹_›
 ·exact o ‹_›
def Av{i j:Int}{x:Nd}(h:(N i).tm≤x.tm):(N j).tm≤(up N i x j).tm:=Aw (P:=λ y=>(N j).tm≤y.tm) (λ e=>e▸h) λ _=>YX _
def Inv.raise(h:Inv ag g N)(i T:Int)(A:(N i).tm≤T):Inv ag g (up N i ⟨T,(N i).lg⟩):=by
 have p:Gr g g N (up N i ⟨T,(N i).lg⟩):=⟨λ j=>Av A,λ _=>YH _,λ _ _ _ q=>.inl q⟩;have u:∀j,(up N i ⟨T,(N i).lg⟩ j).lg=(N j).lg:=λ j=>Aw (P:=λ y=>y.lg=(N j).lg) (λ e=>e▸rfl) λ _=>rfl
 refine⟨h.wl,h.e0,h.es,λ j=>?_,λ T' c d hd=>?_,λ v T' q=>h.v0 v T' (Int.lt_of_le_of_lt (p.tm v) q),λ v T' q=>?_,λ v T'=>⟨(h.a0 v T').1,λ q=>(h.a0 v T').2 (Int.lt_of_le_of_lt (p.tm v) q)⟩,λ v T' m q o=>?_,λ T0 T' m h0 z o=>h.pp T0 T' m h0 z (o.back p o.lt)⟩
 ·rw[u];exact(h.nl j).mono (p.tm j) p.L
 ·exact⟨Vr (h.dl T' c d hd).1 (p.tm c),(h.dl T' c d hd).2⟩
 ·obtain⟨d,h1,B⟩:=h.vd v T' q;exact⟨d,h1,λ T0 m h0 x o=>B T0 m h0 x (o.back p o.lt)⟩
 ·rw[u];refine h.aq v T' m q ?_;rcases o with o|o
  ·by_cases k:(N v).tm<T'
   ·rw[(h.a0 v T').2 k]at q;omega
   ·have:=p.tm v;exact .inl (by omega)
  ·exact .inr (o.back p o.lt)
def Gh.mT(g:Gh)(i T c:Int):Gh:={g with vt:=λ v t=>if v=i∧t=T then c else g.vt v t}
def Inv.mT(h:Inv ag g N)(i c:Int){d:Lg}(A:g.vt i (N i).tm=0∨g.vt i (N i).tm=c)(hd:g.D (N i).tm c=some d)(hn:dH (N i).lg<dH d∨dH d=dH (N i).lg∧(N i).lg.length≤d.length):Inv ag (g.mT i (N i).tm c) N:=by
 refine⟨h.wl,h.e0,λ T p=>?_,h.nl,h.dl,λ v T q=>?_,λ v T=>?_,h.a0,h.aq,h.pp⟩
 ·obtain⟨V,d,h1,z,y⟩:=h.es T p;refine⟨V,d,h1,λ v j=>?_,y⟩;show(if v=i∧T=(N i).tm then c else g.vt v T)=g.el T
  have:=z v j;split
  ·rename_i q;obtain⟨rfl,rfl⟩:=q;have o:g.el (N v).tm≠0:=p;rcases A with q|q
   ·exact absurd (this.symm.trans q) o
   ·exact q.symm.trans this
  ·exact this
 ·show(if v=i∧T=(N i).tm then c else g.vt v T)=0;rw[if_neg λ e=>by obtain⟨rfl,rfl⟩:=e;omega]
  exact h.v0 v T q
 ·show(if v=i∧T=(N i).tm then c else g.vt v T)≠0→∃d,g.D T (if v=i∧T=(N i).tm then c else g.vt v T)=some d∧_;split
  ·rename_i q;obtain⟨rfl,rfl⟩:=q;exact λ _=>⟨d,hd,λ T0 m h0 x u=>h.rn (h.nl v) (h.dl _ _ _ hd).2 hn u (h.aq v T0 m x (.inr u))⟩
  ·exact h.vd v T
def Gh.jV(g:Gh)(T i:Int)(l:Lg):Gh:={g with D:=λ t c=>if t=T∧c=i then some l else g.D t c}
def Inv.jV(h:Inv ag g N)(i:Int)(hd:g.D (N i).tm i=none)(p:WL g.L ((N i).tm-1) (N i).lg):Inv ag (g.jV (N i).tm i (N i).lg) N:=by
 have o:∀{T c d},g.D T c=some d→(g.jV (N i).tm i (N i).lg).D T c=some d:=λ{T c d} q=>by
  show(if T=(N i).tm∧c=i then _ else g.D T c)=_;rw[if_neg λ e=>by rw[e.1,e.2,hd]at q;cases q];exact q
 refine⟨h.wl,h.e0,λ T x=>?_,h.nl,λ T c d q=>?_,h.v0,λ v T q=>?_,h.a0,h.aq,h.pp⟩
 ·obtain⟨V,d,h1,j,u,y⟩:=h.es T x;exact⟨V,d,h1,j,o u,y⟩
 ·replace q:(if T=(N i).tm∧c=i then some (N i).lg else g.D T c)=some d:=q;split at q
  ·rename_i e;obtain⟨rfl,rfl⟩:=e;cases q;exact⟨YX _,p⟩
  ·exact h.dl T c d q
 ·obtain⟨d,h1,j⟩:=h.vd v T q;exact⟨d,o h1,j⟩
def Gh.gb(g:Gh)(T i:Int)(l:Lg):Gh:={g with el:=up g.el T i,L:=up g.L T l}
def Inv.gb(h:Inv ag g N)(i:Int)(h0:i≠0)(H:g.el (N i).tm=0)(hd:g.D (N i).tm i=some (N i).lg){V:aa}(Q:Qm ag V)(R:∀v∈V,g.vt v (N i).tm=i):Inv ag (g.gb (N i).tm i (N i).lg) N:=by
 have B:=h.e0 _ H;have o:∀{T},T≠(N i).tm→(g.gb (N i).tm i (N i).lg).L T=g.L T:=λ q=>gU _ _ q;have x:(g.gb (N i).tm i (N i).lg).L (N i).tm=(N i).lg:=qe ..
 have z:∀T,g.L T<+:(g.gb (N i).tm i (N i).lg).L T:=λ T=>by
  by_cases q:T=(N i).tm
  ·subst q;rw[B];exact Uk
  ·rw[o q];exact YH _
 have hg:Gr g (g.gb (N i).tm i (N i).lg) N N:=⟨λ _=>YX _,z,λ _ _ _ q=>.inl q⟩;have u:∀{v T m},m<g.ac v T→T≠(N i).tm:=λ{v T m} q e=>by
  have:=(h.a0 v T).1;rw[e,B]at this;rw[e]at q;simp at this;omega
 have J:∀{T m},T≠(N i).tm→ch ag (g.gb (N i).tm i (N i).lg) N T m→ch ag g N T m:=λ{T m} q p=>p.back hg (by rw[←o q];exact p.lt)
 refine⟨λ T=>?_,λ T q=>?_,λ T q=>?_,λ j=>(h.nl j).mono (YX _) z,λ T c d q=>⟨(h.dl T c d q).1,(h.dl T c d q).2.mono (YX _) z⟩,h.v0,λ v T q=>?_,λ v T=>⟨Wh (h.a0 v T).1 (z T).length_le,(h.a0 v T).2⟩,λ v T m q p=>?_,λ T0 T m h1 E p=>?_⟩
 ·by_cases q:T=(N i).tm
  ·subst q;rw[x];exact(h.nl i).mono (YX _) z
  ·rw[o q];exact(h.wl T).mono (YX _) z
 ·by_cases k:T=(N i).tm
  ·subst k;exact absurd ((qe ..).symm.trans q) h0
  ·rw[o k];exact h.e0 T ((gU _ _ k).symm.trans q)
 ·by_cases k:T=(N i).tm
  ·subst k;have:(g.gb (N i).tm i (N i).lg).el (N i).tm=i:=qe ..;rw[this,x];exact⟨V,_,Q,R,hd,YH _⟩
  ·have:(g.gb (N i).tm i (N i).lg).el T=g.el T:=gU _ _ k;rw[this]at q⊢;rw[o k];exact h.es T q
 ·obtain⟨d,h1,E⟩:=h.vd v T q;refine⟨d,h1,λ T0 m Z F p=>?_⟩;rw[o (u F)];exact E T0 m Z F (J (u F) p)
 ·rw[o (u q)];exact h.aq v T m q (p.imp id (J (u q)))
 ·by_cases k:T0=(N i).tm
  ·obtain⟨⟨e,O,g2⟩, -⟩:=p;rw[k,x]at O;have:=((h.dl _ _ _ hd).2 m e O).2.1;omega
  ·have C:=J k p;rw[o k];by_cases k2:T=(N i).tm
   ·subst k2;rw[x];obtain⟨-,A,U,X⟩:=C;obtain⟨v,v1,Y⟩:=U.meet Q;have y:=R v Y;have hT:(N i).tm≤(N v).tm:=Int.not_lt.1 λ q=>h0 (y.symm.trans (h.v0 v _ q));obtain⟨d,M,d2⟩:=h.vd v (N i).tm (by rw[y];exact h0)
    rw[y,hd]at M;cases M;exact d2 T0 m h1 ((X v v1).resolve_right (by omega)) ⟨p.1.imp λ e H=>by rwa [o k]at H,A,U,X⟩
   ·rw[o k2];exact h.pp T0 T m h1 (λ q=>E ((gU _ _ k2).trans q)) C
def Gh.app(g:Gh)(T:Int)(e:bx):Gh:={g with L:=up g.L T (g.L T++[e])}
def Inv.app(h:Inv ag g N)(i:Int)(e:bx)(he:g.el (N i).tm≠0)(X:(N i).lg=g.L (N i).tm)(Y:e.Term=(N i).tm)(h1:1≤e.Term):Inv ag (g.app (N i).tm e) (up N i ⟨(N i).tm,(N i).lg++[e]⟩):=by
 have u:∀{T},T≠(N i).tm→(g.app (N i).tm e).L T=g.L T:=λ q=>gU _ _ q;have B:(g.app (N i).tm e).L (N i).tm=g.L (N i).tm++[e]:=qe ..
 have p:∀T,g.L T<+:(g.app (N i).tm e).L T:=λ T=>by
  by_cases q:T=(N i).tm
  ·subst q;rw[B];exact WD ..
  ·rw[u q];exact YH _
 have o:∀j,(up N i ⟨(N i).tm,(N i).lg++[e]⟩ j).tm=(N j).tm:=λ j=>Aw (P:=λ y=>y.tm=(N j).tm) (λ q=>q▸rfl) λ _=>rfl;have Q:∀j,(N j).lg<+:(up N i ⟨(N i).tm,(N i).lg++[e]⟩ j).lg:=λ j=>Aw (P:=λ y=>(N j).lg<+:y.lg) (λ q=>by subst q;exact WD ..) λ _=>YH _
 have O:Gr g (g.app (N i).tm e) N (up N i ⟨(N i).tm,(N i).lg++[e]⟩):=⟨λ j=>Int.le_of_eq (o j).symm,p,λ _ _ _ q=>.inl q⟩;have R:WL (g.app (N i).tm e).L (N i).tm (g.L (N i).tm++[e]):=λ k a F=>by
  by_cases q:k<(g.L (N i).tm).length
  ·rw[Yt q]at F;obtain⟨x,y,z⟩:=h.wl _ k a F;rw[W4 (by omega)]
   exact⟨x,y,z.trans (p _)⟩
  ·have U:=(Ys.1 F).1;rw[Y8,W9]at U;rw[Yl (by omega),show k-(g.L (N i).tm).length=0 by omega]at F
   cases F;refine⟨h1,by omega,?_⟩
   rw[Y,B,Yk (by simp;omega)]
   exact YH _
 have E:∀{v T m},m<g.ac v T→((g.app (N i).tm e).L T).take (m+1)=(g.L T).take (m+1):=λ{v T m} q=>tj (p T) (by have:=(h.a0 v T).1;omega)
 refine⟨λ T=>?_,λ T q=>?_,λ T q=>?_,λ j=>?_,λ T c d q=>?_,λ v T q=>h.v0 v T (by rwa [o]at q),λ v T q=>?_,λ v T=>⟨Wh (h.a0 v T).1 (p T).length_le,λ q=>(h.a0 v T).2 (by rwa [o]at q)⟩,λ v T m q C=>?_,λ T0 T m J H C=>?_⟩
 ·by_cases q:T=(N i).tm
  ·subst q;rw[B];exact R
  ·rw[u q];exact(h.wl T).mono (YX _) p
 ·rw[u λ k=>he (k▸q)];exact h.e0 T q
 ·obtain⟨V,d,a,b,c,x⟩:=h.es T q;exact⟨V,d,a,b,c,x.trans (p T)⟩
 ·rw[o];unfold up;split
  ·rename_i q;subst q;rw[X];exact R
  ·exact(h.nl j).mono (YX _) p
 ·rw[o];exact⟨(h.dl T c d q).1,(h.dl T c d q).2.mono (YX _) p⟩
 ·obtain⟨d,h1,J⟩:=h.vd v T q;refine⟨d,h1,λ T0 m H M C=>?_⟩;rw[E M];exact J T0 m H M (C.back O (Wx M (h.a0 v T0).1))
 ·rw[E q];refine(h.aq v T m q (C.imp (λ k=>by rwa [o]at k) λ k=>k.back O (Wx q (h.a0 v T).1))).trans (Q v)
 ·by_cases q:m<(g.L T0).length
  ·rw[tj (p T0) (by omega)]
   exact(h.pp T0 T m J H (C.back O q)).trans (p T)
  ·exfalso;obtain⟨V,d,a,b, -⟩:=h.es T H;obtain⟨-,A,hA,hq⟩:=C;obtain⟨v,v1,Z⟩:=hA.meet a;have hT:T≤(N v).tm:=Int.not_lt.1 λ q=>H ((b v Z).symm.trans (h.v0 v _ q));have:=hq v v1
   rw[o]at this;have k:m<g.ac v T0:=this.resolve_right (by omega)
   have:=(h.a0 v T0).1;omega
def Gh.sX(g:Gh)(i T:Int)(n:Nat):Gh:={g with ac:=λ v t=>if v=i∧t=T then max (g.ac v t) n else g.ac v t}
def Inv.sX(h:Inv ag g N)(i:Int){n:Nat}(hn:n≤(g.L (N i).tm).length)(z:(g.L (N i).tm).take n<+:(N i).lg):Inv ag (g.sX i (N i).tm n) N:=by
 have j:∀{v T m},m<(g.sX i (N i).tm n).ac v T→m<g.ac v T∨v=i∧T=(N i).tm∧m<n:=λ{v T m} q=>by
  replace q:m<(if v=i∧T=(N i).tm then max (g.ac v T) n else g.ac v T):=q;split at q
  ·rename_i e;by_cases k:m<g.ac v T
   ·exact .inl k
   ·exact .inr ⟨e.1,e.2,by omega⟩
  ·exact .inl q
 have u:Gr g (g.sX i (N i).tm n) N N:=⟨λ _=>YX _,λ _=>YH _,λ v T m q=>(j q).imp id λ k=>by rw[k.1,k.2.1];exact YX _⟩
 refine⟨h.wl,h.e0,h.es,h.nl,h.dl,h.v0,λ v T q=>?_,λ v T=>?_,λ v T m q o=>?_,λ T0 T m h1 p o=>h.pp T0 T m h1 p (o.back u o.lt)⟩
 ·obtain⟨d,h1,p⟩:=h.vd v T q;refine⟨d,h1,λ T0 m x y o=>p T0 m x ?_ (o.back u o.lt)⟩;rcases j y with k|⟨rfl,rfl, -⟩
  ·exact k
  ·exact absurd (h.v0 v T x) q
 ·show(if v=i∧T=(N i).tm then max (g.ac v T) n else g.ac v T)≤_∧(_→(if v=i∧T=(N i).tm then max (g.ac v T) n else g.ac v T)=0);have:=h.a0 v T;split
  ·rename_i e;obtain⟨rfl,rfl⟩:=e;have:=this.1;exact⟨by show max _ _≤(g.L _).length;omega,λ q=>by omega⟩
  ·exact this
 ·rcases j q with k|⟨rfl,rfl,k⟩
  ·exact h.aq v T m k (o.imp id λ c=>c.back u c.lt)
  ·refine List.IsPrefix.trans ?_ z;show(g.L (N v).tm).take (m+1) <+:_;exact uM (zq ..) (zq ..) (by simp;omega)
def Inv.follow(h:Inv ag g N)(i:Int){l:Lg}(E:g.el (N i).tm≠0)(H:l<+:g.L (N i).tm)(F:∀p,p<+:(N i).lg→p<+:g.L (N i).tm→p<+:l):Inv ag g (up N i ⟨(N i).tm,l⟩):=by
 have o:∀j,(up N i ⟨(N i).tm,l⟩ j).tm=(N j).tm:=λ j=>Aw (P:=λ y=>y.tm=(N j).tm) (λ q=>q▸rfl) λ _=>rfl;have z:Gr g g N (up N i ⟨(N i).tm,l⟩):=⟨λ j=>Int.le_of_eq (o j).symm,λ _=>YH _,λ _ _ _ q=>.inl q⟩
 refine⟨h.wl,h.e0,h.es,λ j=>?_,λ T c d q=>by rw[o];exact h.dl T c d q,λ v T q=>h.v0 v T (by rwa [o]at q),λ v T q=>?_,λ v T=>⟨(h.a0 v T).1,λ q=>(h.a0 v T).2 (by rwa [o]at q)⟩,λ v T m q u=>?_,λ T0 T m h1 A u=>h.pp T0 T m h1 A (u.back z u.lt)⟩
 ·rw[o];unfold up;split
  ·rename_i q;subst q;exact(h.wl _).take H
  ·exact h.nl j
 ·obtain⟨d,h1,A⟩:=h.vd v T q;exact⟨d,h1,λ T0 m C B u=>A T0 m C B (u.back z u.lt)⟩
 ·have x:T=(N v).tm∨ch ag g N T m:=u.imp (λ k=>by rwa [o]at k) λ c=>c.back z c.lt
  have ho:=h.aq v T m q x;unfold up;split
  ·rename_i e;subst e;refine F _ ho ?_;by_cases k:T=(N v).tm
   ·rw[k];exact zq ..
   ·by_cases k2:T<(N v).tm
    ·exact h.pp T _ m k2 E (x.resolve_left k)
    ·rw[(h.a0 v T).2 (by omega)]at q;omega
  ·exact ho
def cm(ag:aa)(g:Gh)(T:Int)(m:Nat):Prop:=(∃e,(g.L T)[m]? =some e∧e.Term=T)∧∃A,Qm ag A∧∀i∈A,m<g.ac i T
def cm.ch{T:Int}{m:Nat}(h:cm ag g T m):ch ag g N T m:=⟨h.1,h.2.imp λ A h=>⟨h.1,λ i j=>.inl (h.2 i j)⟩⟩
def cm.pre{T T':Int}{m:Nat}(h:cm ag g T m)(i:Inv ag g N)(hT:T≤T')(j:g.el T'≠0):(g.L T).take (m+1) <+:g.L T':=by
 by_cases q:T=T'
 ·rw[q];exact zq ..
 ·exact i.pp T T' m (by omega) j h.ch
def cm.el{T:Int}{m:Nat}(h:cm ag g T m)(j:Inv ag g N):g.el T≠0:=λ q=>by
 obtain⟨⟨e,i, -⟩, -⟩:=h;rw[j.e0 T q]at i;cases i
def cm.cmp{T1 T2:Int}{p o:Nat}(h1:cm ag g T1 p)(j:cm ag g T2 o)(i:Inv ag g N)(hm:p≤o):(g.L T1).take (p+1) <+:(g.L T2).take (o+1):=by
 by_cases q:T1≤T2
 ·exact uM (h1.pre i q (j.el i)) (zq ..) (by have:=(j.ch (N:=N)).lt;simp;omega)
 ·exact uM (zq ..) (j.pre i (by omega) (h1.el i)) (by have:=(j.ch (N:=N)).lt;simp;omega)
end
set_option maxRecDepth 20000
def bQ(t:ca):Int:=t.an+(t.Entries.length:Int)
def gp(t:ca)(n:Int):Option Int:=if n=t.an then some t.au else if t.an<n then(t.Entries[(n-t.an-1).toNat]?).map (·.Term)else none
structure TC(t:ca):Prop where
 ck:ma FF t=some true
 ok:lb t
def Jt{t:ca}{n:Int}(h:gp t n=none):n<t.an∨bQ t<n:=by
 unfold gp at h;unfold bQ;split at h
 ·cases h
 ·split at h
  ·rw[Option.map_eq_none_iff,List.getElem?_eq_none_iff]at h;omega
  ·omega
def tf{t:ca}{n x:Int}(h:gp t n=some x):t.an≤n∧n≤bQ t:=by
 unfold gp at h;unfold bQ;split at h
 ·omega
 ·split at h
  ·rw[Yq]at h;obtain⟨e,i, -⟩:=h;have:=(Ys.1 i).1;omega
  ·cases h
def Np{t:ca}(h:lb t){n x:Int}(i:gp t n=some x):wq FF t n=some x:=by
 have j:=tf i;have a0:=h.b0;have a1:=h.last;unfold bQ at j;unfold wq;unfold gp at i;by_cases q:n=t.an
 ·rw[if_pos q]at i;rw[q,show(t.an==t.an)=true by simp];exact i
 ·rw[if_neg q,if_pos (by omega)]at i
  rw[show(n==t.an)=false by simpa using q,Y7,dj (x:=n-t.an) (by omega) (by omega),dj (by omega) (by omega),Y2 (by omega:(0:Int)≤n-t.an-1),Y4]
  rw[Yq]at i;obtain⟨e,o,rfl⟩:=i;rw[o];rfl
def TC.kB{t:ca}(h:TC t)(n:Int):pt FF t n=some ((gp t n).getD 0,(gp t n).isSome):=by
 have b0:=h.ok.b0;have b1:=h.ok.b1;have hl:=h.ok.len;have e:=lP b0 b1 (by omega)
 unfold pt;rw[h.ck,Y1,YV,Y7,e];cases hx:gp t n with
 |none=>
  have:=Jt hx;unfold bQ at this;by_cases q:n<t.an
  ·rw[Y2 q];rfl
  ·rw[Ye q,Y7,Y1,Y2 (by omega)];rfl
 |some x=>
  have:=tf hx;unfold bQ at this;rw[Ye (by omega:¬n<t.an),Y7,Y1,Ye (by omega),Y1,Y7,Np h.ok hx];rfl
def I8{t:ca}(h:0≤t.an):∃x,gp t (bQ t)=some x:=by
 cases e:gp t (bQ t)with
 |some x=>exact⟨x,rfl⟩
 |none=>have:=Jt e;unfold bQ at this;omega
def TC.oz{t:ca}(h:TC t){x:Int}(i:gp t (bQ t)=some x):qP FF t=some (bQ t,x):=by
 have e:=lP h.ok.b0 h.ok.b1 (by have:=h.ok.len;omega)
 unfold qP;rw[h.ck,Y1,YV,Y7,e,Y1,Y1];rw[show t.an+(t.Entries.length:Int)=bQ t from rfl,Np h.ok i];rfl
def TC.rn{t:ca}(h:TC t){x:Int}(i:gp t (bQ t)=some x)(n f:Int):xX FF t n f=some (decide (x<f∨f=x∧bQ t≤n)):=by
 unfold xX;rw[h.ck,Y1,YV,Y7,h.oz i,Y1];by_cases q:x<f
 ·rw[Y2 q,Y4,Y2 (.inl q)]
 ·rw[Ye q,Y7];by_cases k:f=x
  ·rw[show(f==x)=true by simpa using k,Y4]
   congr 1;exact Ue.2 ⟨λ c=>.inr ⟨k,c⟩,λ c=>c.elim (λ c=>absurd c q) λ c=>c.2⟩
  ·rw[show(f==x)=false by simpa using k,Y7,Ye (λ c=>c.elim q λ c=>k c.1)]
def TC.slice{t:ca}(h:TC t){f:Int}(h1:t.an<f)(p:f≤bQ t+1):∃k,CC FF t f 8=some ((t.Entries.drop (f-t.an-1).toNat).take k):=by
 have b0:=h.ok.b0;have b1:=h.ok.b1;have hl:=h.ok.len;unfold bQ at p;have e:=lP b0 b1 (by omega)
 unfold CC;rw[h.ck,Y1,YV,Y7,e,Y1];by_cases q:t.an+(t.Entries.length:Int)<f
 ·rw[Y2 q,Y4];exact⟨0,by rw[Ul];rfl⟩
 ·rw[Ye q,Y7,Y1,show decide ((8:Int)≤0)=false by decide,Y7]
  rw[dj (x:=t.an+1) (by omega) (by omega)]
  have o:(if t.an+1>f then t.an+1 else f)=f:=if_neg (by omega)
  simp only[o];rw[dj (x:=f-t.an) (by omega) (by omega),dj (x:=f-t.an-1) (by omega) (by omega)]
  have j:(f-t.an-1).toNat≤t.Entries.length:=by omega
  generalize (f-t.an-1).toNat=kk at j⊢;simp only[Iy,Yw,Ya];generalize hq:(if((t.Entries.length-kk:Nat):Int)<8 then((t.Entries.length-kk:Nat):Int)else 8)=q;have i:0≤q∧q≤((t.Entries.length-kk:Nat):Int):=by split at hq<;>omega
  rw[Y2 (by omega:(0:Int)≤f-t.an-1),Y2 j,Y2 (Yg _),Y2 i.1,Y2 (YL _),Y2 (by omega:q.toNat≤t.Entries.length-kk)]
  simp only[Y4];rw[uU _ (by rw[Y9,Yw];unfold bI;omega)]
  exact⟨_,rfl⟩
def dZ(t:ca)(n x:Int):ca:=ca.mk n x (t.Entries.drop (n-t.an).toNat)
def TC.cut{t:ca}(h:TC t){n x:Int}(i:gp t n=some x):sq FF t n=some (dZ t n x,true):=by
 have b0:=h.ok.b0;have b1:=h.ok.last;have j:=tf i;unfold bQ at j;unfold sq;rw[h.kB,i,Y1,dj (by omega) (by omega)]
 simp only[YS,YV,Y7];rw[Y2 (by omega:(0:Int)≤n-t.an),Y2 (by omega:(n-t.an).toNat≤t.Entries.length),Y2 (Yg _)]
 simp only[Y4];rw[uU _ (by have:=h.ok.len;simp;unfold bI;omega)]
 rfl
def IU(t:ca)(i:Nat)(more:List bx)(o:i≤t.Entries.length)(hl:t.Entries.length≤1000000)(hm:more.length≤1000000):
 (ou FF t (i:Int) more=some (ca.mk t.an t.au (t.Entries.take i++more),true)∧TC (ca.mk t.an t.au (t.Entries.take i++more)))∨ou FF t (i:Int) more=some (ca.mk 0 0 [],false):=by
 unfold ou;have e:(@Ab.cut (List AV) none (some (Operand.tmp 18)) (List.map bx.c t.Entries) 0 i).length=i:=by simp;omega
 rw[Yf,e,Y2 (by omega:(0:Int)≤(i:Int)),Y2 (by omega:0≤i),Y2 o,Y2 (by unfold bI;omega:i≤bI),Y2 (by unfold bI;omega:i+more.length≤bI)]
 simp only[Y4];rcases Iv (ca.mk t.an t.au (t.Entries.take i++more)) (by simp;omega)with ⟨j,h⟩|j
 ·rw[j];exact .inl ⟨rfl,j,h⟩
 ·rw[j];exact .inr rfl
def TC.append{t:ca}(h:TC t)(e:bx):(yc FF t e=some (ca.mk t.an t.au (t.Entries++[e]),true)∧TC (ca.mk t.an t.au (t.Entries++[e])))∨∃x,yc FF t e=some (x,false):=by
 unfold yc;rw[h.ck,wW,Y1,YV,Y7];rcases IU t t.Entries.length [e] (Yg _) (by have:=h.ok.len;omega) (by simp)with q|q
 ·rw[W7]at q;rw[q.1];exact .inl ⟨rfl,q.2⟩
 ·rw[q];exact .inr ⟨_,rfl⟩
def Alike(a b:List bx)(j:Nat):Prop:=∀i<j,∃x y,a[i]? =some x∧b[i]? =some y∧x.Term=y.Term
def vn(t:ca)(z:t.Entries.length≤10000):∀(es:List bx) (k n:Nat),k≤t.Entries.length→es.length<n→∃j,u7 FF t n es (k:Int)=some (es.drop j,((k+j:Nat):Int))∧j≤es.length∧k+j≤t.Entries.length∧Alike (t.Entries.drop k) es j∧∀x y,t.Entries[k+j]? =some x→es[j]? =some y→x.Term≠y.Term
 | [],k,0,_,h=>absurd h (We _)
 | [],k,n+1,hk,hn=>⟨0,rfl,Yg _,hk,(λ i h=>absurd h (We _)),λ x y _ h=>by cases h⟩
 |a::r,k,0,_,h=>absurd h (We _)
 |a::r,k,n+1,hk,hn=>by
  simp only[u7];rw[Y2 (by simp only[Yh];omega:(0:Int)<(((a::r).length:Nat):Int)),Y4]
  by_cases A:k<t.Entries.length
  ·have p:=Y3 A;rw[Y2 (by omega:(k:Int)<(t.Entries.length:Int)),Y4,Y2 (by omega:(0:Int)≤(k:Int)),Y4,Yf,p]
   simp only[Y1,WJ,Yv];by_cases q:t.Entries[k].Term=a.Term
   ·rw[show(t.Entries[k].Term==a.Term)=true by simpa using q,Y4,Y2 (by simp:(1:Int).toNat≤(a::r).length),Y2 (Yg _),w1 (by omega)]
    simp only[Y4];obtain⟨j,e,h3,h4,u,C⟩:=vn t z r (k+1) n (by omega) (by simp only[Yh]at hn;omega)
    refine⟨j+1,?_,by simp only[Yh];omega,by omega,λ i hi=>?_,?_⟩
    ·show u7 FF t n r _=_;rw[e];congr 2;omega
    ·cases i with
     |zero=>exact⟨_,_,by rw[YP,WC];exact p,rfl,q⟩
     |succ i=>
      obtain⟨x,y,c1,o,B⟩:=u i (by omega)
      rw[YP]at c1;exact⟨x,y,by rw[YP,←c1];congr 1;omega,o,B⟩
    ·intro x y c1 o;exact C x y (by rw[←c1];congr 1;omega) o
   ·rw[show(t.Entries[k].Term==a.Term)=false by simpa using q,Y7]
    exact⟨0,rfl,YL _,by omega,(λ i h=>absurd h (We _)),λ x y c1 o=>by rw[WC,p]at c1;cases c1;cases o;exact q⟩
  ·rw[Ye (by omega:¬(k:Int)<(t.Entries.length:Int)),Y7,Y1,Y7]
   exact⟨0,rfl,YL _,by omega,(λ i h=>absurd h (We _)),λ x y c1 o=>by rw[Wn (by omega)]at c1;cases c1⟩
structure DC(t:ca)(prev f:Int)(es:List bx)(fixed:Int)(t':ca)(s k:Nat):Prop where
 tc:TC t'
 s0:t.an≤prev+(s:Int)
 s1:s=0∨t.an=prev+(s:Int)
 sl:s≤es.length
 at_:gp t (prev+(s:Int))=some (if s=0 then f else match es[s-1]? with|some e=>e.Term|none=>0)
 kl:s+k≤es.length
 al:Alike (t.Entries.drop (prev+(s:Int)-t.an).toNat) (es.drop s) k
 rs:s+k=es.length∧t'=t∨s+k<es.length∧t'=ca.mk t.an t.au (t.Entries.take ((prev+(s:Int)-t.an).toNat+k)++es.drop (s+k))∧fixed≤t.an+(((prev+(s:Int)-t.an).toNat+k:Nat):Int)∧(prev+(s:Int)-t.an).toNat+k≤t.Entries.length∧
  ∀x y,t.Entries[(prev+(s:Int)-t.an).toNat+k]? =some x→es[s+k]? =some y→x.Term≠y.Term
def TC.put{t:ca}(h:TC t)(i f:Int)(es:List bx)(j:Int)(he:es.length≤1000)(h0:i≤2000000000000):
 (∃x,zC FF t i f es j=some (x,false))∨∃B,zC FF t i f es j=some (B,true)∧0≤i∧(B=t∧i+(es.length:Int)<t.an∨∃s k,DC t i f es j B s k):=by
 have b0:=h.ok.b0;have b1:=h.ok.b1;have hl:=h.ok.len;have same:(∃x,ou FF t ((t.Entries.length:Nat):Int) []=some (x,false))∨ou FF t ((t.Entries.length:Nat):Int) []=some (t,true):=by
  rcases IU t t.Entries.length [] (Yg _) (by omega) (by simp)with q|q
  ·rw[W7,YI]at q;exact .inr q.1
  ·exact .inl ⟨_,q⟩
 obtain⟨b,R,hf⟩:=OG f es (by omega)
 unfold zC;rw[h.ck,Y1,YV,Y7,wW];by_cases J:i<0
 ·rw[Y2 J];exact .inl ⟨_,rfl⟩
 rw[Ye J,Y7];by_cases p1:f<0
 ·rw[Y2 p1];exact .inl ⟨_,rfl⟩
 rw[Ye p1,Y7,R,Y1,Y1];cases b with
 |false=>exact .inl ⟨_,rfl⟩
 |true=>
 rw[YV,Y7,dj (x:=t.an-i) (by omega) (by omega)]
 have rest:∀s:Nat,t.an≤i+(s:Int)→(s=0∨t.an=i+(s:Int))→s≤es.length→∀pv g:Int,pv=i+(s:Int)→g=(if s=0 then f else match es[s-1]? with|some e=>e.Term|none=>0)→
  (∃x,(Option.bind (pt FF t pv) λ A=>Option.bind (bif !A.2 then some true else some (A.1 != g)) λ o=>bif o then some ((ca.mk (0:Int) (0:Int) []),false)else
   Option.bind (u7 FF t FF (es.drop s) (IntKind.wrap IntKind.i64 (pv-t.an))) λ(x:List bx×Int)=>bif ((@Nat.cast Int instNatCastInt (List.length x.1))==(0:Int))then(Option.bind (ou FF t ((t.Entries.length:Nat):Int) []) λ p=>some (p.1,p.2))else
    bif decide ((IntKind.wrap IntKind.i64 ((IntKind.wrap IntKind.i64 (t.an+x.2))+(1:Int)))≤j)then some ((ca.mk (0:Int) (0:Int) []),false)else Option.bind (ou FF t x.2 x.1) λ u=>some (u.1,u.2))=some (x,false))∨
  ∃B,(Option.bind (pt FF t pv) λ A=>Option.bind (bif !A.2 then some true else some (A.1 != g)) λ o=>bif o then some ((ca.mk (0:Int) (0:Int) []),false)else
   Option.bind (u7 FF t FF (es.drop s) (IntKind.wrap IntKind.i64 (pv-t.an))) λ(x:List bx×Int)=>bif ((@Nat.cast Int instNatCastInt (List.length x.1))==(0:Int))then(Option.bind (ou FF t ((t.Entries.length:Nat):Int) []) λ p=>some (p.1,p.2))else
    bif decide ((IntKind.wrap IntKind.i64 ((IntKind.wrap IntKind.i64 (t.an+x.2))+(1:Int)))≤j)then some ((ca.mk (0:Int) (0:Int) []),false)else Option.bind (ou FF t x.2 x.1) λ u=>some (u.1,u.2))=some (B,true)∧∃s k,DC t i f es j B s k:=by
  intro s s0 s1 sl pv g E M;subst E;rw[h.kB,Y1];cases hx:gp t (i+(s:Int))with
  |none=>exact .inl ⟨_,rfl⟩
  |some x=>
   simp only[YS,YV,Y7,YJ,Y1];by_cases q:x=g
   ·have O:=tf hx;unfold bQ at O;rw[show(x != g)=false by simpa using q,Y7,dj (x:=i+(s:Int)-t.an) (by omega) (by omega)]
    obtain⟨k,e,k1,k2,k3,k4⟩:=vn t (by omega) (es.drop s) (i+(s:Int)-t.an).toNat FF (by omega) (by simp only[FF,Yw];omega)
    rw[show(((i+(s:Int)-t.an).toNat:Nat):Int)=i+(s:Int)-t.an by omega]at e
    rw[e,Y1];simp only[WX,Yw]at k1⊢;by_cases z:es.length-(s+k)=0
    ·rw[z,show(((0:Nat):Int)==0)=true from rfl,Y4]
     rcases same with ⟨y,w⟩|w
     ·rw[w];exact .inl ⟨_,rfl⟩
     ·rw[w];exact .inr ⟨t,rfl,s,k,h,s0,s1,sl,by rw[hx,q,M],by omega,k3,.inl ⟨by omega,rfl⟩⟩
    ·rw[show((((es.length-(s+k):Nat)):Int)==0)=false by simpa using(by omega:¬(((es.length-(s+k):Nat)):Int)=0),Y7]
     rw[dj (x:=t.an+(((i+(s:Int)-t.an).toNat+k:Nat):Int)) (by omega) (by omega),dj (by omega) (by omega)]
     by_cases w:t.an+(((i+(s:Int)-t.an).toNat+k:Nat):Int)+1≤j
     ·rw[Y2 w];exact .inl ⟨_,rfl⟩
     ·rw[Ye w,Y7];rcases IU t ((i+(s:Int)-t.an).toNat+k) (es.drop (s+k)) k2 (by omega) (by simp;omega)with ⟨v,vt⟩|v
      ·rw[v];refine .inr ⟨_,rfl,s,k,vt,s0,s1,sl,by rw[hx,q,M],by omega,k3,.inr ⟨by omega,rfl,by omega,k2,λ x y c1 Q=>k4 x y c1 (by rw[YP];exact Q)⟩⟩
      ·rw[v];exact .inl ⟨_,rfl⟩
   ·rw[show(x != g)=true by simpa using q];exact .inl ⟨_,rfl⟩
 by_cases H:0<t.an-i
 ·rw[Y2 H,Y4];by_cases F:(es.length:Int)<t.an-i
  ·rw[Y2 F,Y4];rcases same with ⟨y,w⟩|w
   ·rw[w];exact .inl ⟨_,rfl⟩
   ·rw[w];exact .inr ⟨t,rfl,by omega,.inl ⟨rfl,by omega⟩⟩
  ·rw[Ye F,Y7,dj (x:=t.an-i-1) (by omega) (by omega),Y2 (by omega:(0:Int)≤t.an-i-1),Y4]
   have C:(t.an-i-1).toNat<es.length:=by omega
   rw[Y3 C,Y1];by_cases q:es[(t.an-i-1).toNat].Term=t.au
   ·rw[show(es[(t.an-i-1).toNat].Term != t.au)=false by simpa using q,Y7,Y2 (by omega:(0:Int)≤t.an-i),Y2 (by omega:(t.an-i).toNat≤es.length),Y2 (Yg _)]
    simp only[Y4,Y1,YG];have:=rest (t.an-i).toNat (by omega) (.inr (by omega)) (by omega) t.an t.au (by omega) (by
     rw[if_neg (by omega),show(t.an-i).toNat-1=(t.an-i-1).toNat by omega,Y3 C];exact q.symm)
    exact this.imp id λ⟨B,a,b⟩=>⟨B,a,by omega,.inr b⟩
   ·rw[show(es[(t.an-i-1).toNat].Term != t.au)=true by simpa using q];exact .inl ⟨_,rfl⟩
 ·rw[Ye H,Y7];simp only[Y1,YG];have:=rest 0 (by omega) (.inl rfl) (by omega) i f (by omega) rfl
  rw[VK]at this;exact this.imp id λ⟨B,a,b⟩=>⟨B,a,by omega,.inr b⟩
def kg.up{l:aa}(h:kg l):∀(d i:Nat) (a b:Int),l[i]? =some a→l[i+d+1]? =some b→a<b
 |0,i,a,b,h1,h2=>by
  obtain⟨x,y,j,o,p⟩:=h.inc i (Ys.1 h2).1;rw[j]at h1;cases h1;rw[show i+0+1=i+1 from rfl,o]at h2;cases h2
  exact p
 |d+1,i,a,b,h1,h2=>by
  obtain⟨x,y,j,o,p⟩:=h.inc i (by have:=(Ys.1 h2).1;omega)
  rw[j]at h1;cases h1;have:=kg.up h d (i+1) y b o (by rw[←h2];congr 1;omega)
  omega
def kg.inj{l:aa}(h:kg l){i j:Nat}{a:Int}(h1:l[i]? =some a)(o:l[j]? =some a):i=j:=by
 rcases U5 i j with q|q|q
 ·have:=h.up (j-i-1) i a a h1 (by rw[←o];congr 1;omega);omega
 ·exact q
 ·have:=h.up (i-j-1) j a a o (by rw[←h1];congr 1;omega);omega
def kg.nd{l:aa}(h:kg l):l.Nodup:=by
 rw[List.nodup_iff_pairwise_ne,VT];intro i j o hj p e;have:=h.inj (Y3 o) (by rw[Y3 hj,←e])
 omega
def wn(ag set:aa):aa:=ag.filter λ c=>decide (c∈set)
def MV{ag:aa}(set:aa)(z:py FF ag=some true)(B:kg ag)(x:set.length≤2000000):u9 FF ag set=some (decide (ag.length<2*(wn ag set).length)):=by
 have h7:=B.n7;have hw:(wn ag set).length≤ag.length:=Vj ..;have:=dM (λ n (s:Int×Nat)=>vc FF ag set n s.1 (s.2:Int)) (λ s=>s.2≤ag.length∧s.1=((wn (ag.take s.2) set).length:Int)) (λ s=>ag.length-s.2) (λ r=>r=((wn ag set).length:Int)) (by
  rintro n ⟨c,i⟩ ⟨E,j⟩ k;simp only at E j k⊢;simp only[vc];refine cq (λ h=>?_) λ h=>.ret (by rw[j,Yk (by omega)])
  have C:(wn (ag.take i) set).length≤i:=Wh (Vj ..) (by rw[Y9];omega)
  refine bh (Q:=λ r=>r=((wn (ag.take (i+1)) set).length:Int)) (bV (by omega) (cM (by simp;omega) λ y u _=>bh (wC set y x) λ b _ p=>?_)) λ A _ o=>?_
  ·rw[Yf]at u;have e:(wn (ag.take (i+1)) set).length=(wn (ag.take i) set).length+if y∈set then 1 else 0:=by
    unfold wn;rw[W8,u,List.filter_append,Y8];by_cases q:y∈set<;>simp[q]
   refine bu (λ q=>.ret ?_) λ q=>.ret ?_
   ·rw[j,w1 (by omega),e,if_pos (p.1 q)]
   ·rw[j,e,if_neg (λ m=>by rw[p.2 m]at q;cases q)];rfl
  ·rw[w1 (by omega)]
   exact k (A,i+1) ⟨by simp only;omega,o⟩ (by simp only;omega)) FF (0,0) ⟨YL _,rfl⟩ (by simp only[FF];omega)
 obtain⟨r,e,rfl⟩:=this;unfold u9;have F:vc FF ag set FF 0 0=some ((wn ag set).length:Int):=e;rw[F,Y1,z,Y1,Y4,dj (by omega) (by omega)]
 congr 1;exact Ue.2 (by simp only[Ya];omega)
def vk{ag set:aa}(j:kg ag)(h:ag.length<2*(wn ag set).length):Qm ag (wn ag set):=⟨j.nd.filter _,λ x i=>(Wl.1 i).1,h⟩
def nF(l:aa)(k:Nat)(x:Int):Prop:=l.countP (λ y=>decide (y<x))≤k∧k<l.countP (λ y=>decide (y≤x))
def nF.uniq{l:aa}{k:Nat}{x y:Int}(j:nF l k x)(i:nF l k y):x=y:=by
 rcases Int.lt_trichotomy x y with q|q|q
 ·have:l.countP (λ z=>decide (z≤x))≤l.countP (λ z=>decide (z<y)):=List.countP_mono_left λ z _ h=>by simp only[YB]at h⊢;omega
  have:=j.2;have:=i.1;omega
 ·exact q
 ·have:l.countP (λ z=>decide (z≤y))≤l.countP (λ z=>decide (z<x)):=List.countP_mono_left λ z _ h=>by simp only[YB]at h⊢;omega
  have:=i.2;have:=j.1;omega
def qW(n:Nat)(l:aa):Prop:=∀(a b:Nat) (x y:Int),a≤b→b<n→l[a]? =some x→l[b]? =some y→x≤y
def qW.QP{l:aa}(h:qW l.length l){k:Nat}{x:Int}(q:l[k]? =some x):nF l k x:=by
 have u:=(Ys.1 q).1;have e:=V0 (k+1) l;have e0:=V0 k l;constructor
 ·rw[←e0,VC,(List.countP_eq_zero (l:=l.drop k)).2 λ y o=>?_]
  ·have:=List.countP_le_length (p:=λ y=>decide (y<x)) (l:=l.take k);rw[Y9]at this;omega
  ·obtain⟨i,j,rfl⟩:=Wc o;have:=h k (k+i) x (l.drop k)[i] (by omega) (by rw[Yw]at j;omega) q (by rw[←YP,Y3 j])
   simp only[YB];omega
 ·rw[←e,VC,Ui.2 λ y o=>?_]
  ·rw[Y9];omega
  ·obtain⟨i,j,rfl⟩:=Wc o;rw[Y9]at j;have:=h i k (l.take (k+1))[i] x (by omega) u (by rw[←WU (by omega:i<k+1),Y3]) q
   simp only[YB];omega
def nF.perm{l m:aa}(h:List.Perm l m){k:Nat}{x:Int}(hx:nF l k x):nF m k x:=by
 unfold nF at*;rwa [←h.countP_eq,←h.countP_eq]
def UP(x y:Int):CW FF x y=some (decide (x<y)):=by
 unfold CW C6;simp only[Y1,U7,Y7]
def ql(m:aa)(i j:Nat):Prop:=(∀(a b:Nat) (x y:Int),a≤b→b≤i→a≠j→b≠j→m[a]? =some x→m[b]? =some y→x≤y)∧∀(b:Nat) (x y:Int),j<b→b≤i→m[j]? =some x→m[b]? =some y→x≤y
def ql.done{m:aa}{i j:Nat}(h:ql m i j)(hj:j=0∨∃x y,m[j-1]? =some x∧m[j]? =some y∧x≤y):qW (i+1) m:=λ a b x y B hb o A=>by
 by_cases p:a=j
 ·subst p;by_cases q:b=a
  ·subst q;rw[o]at A;cases A;exact YX _
  ·exact h.2 b x y (by omega) (by omega) o A
 ·by_cases q:b=j
  ·subst q;rcases hj with hj|⟨u,v,h1,E,C⟩
   ·omega
   ·rw[E]at A;cases A;by_cases z:a=b-1
    ·subst z;rw[h1]at o;cases o;exact C
    ·have:=h.1 a (b-1) x u (by omega) (by omega) p (by omega) o h1;omega
  ·exact h.1 a b x y B (by omega) p q o A
def ql.step{m:aa}{i j:Nat}(h:ql m i j)(hj:0<j)(hi:j≤i){x y:Int}(h1:m[j-1]? =some x)(H:m[j]? =some y)(hl:y<x):ql ((m.set j x).set (j-1) y) i (j-1):=by
 have l2:=(Ys.1 H).1;have g:∀a,((m.set j x).set (j-1) y)[a]? =if a=j-1 then some y else if a=j then some x else m[a]? :=λ a=>by
  rw[U2,U2];grind
 constructor
 ·intro a b u v C A F E z o;rw[g,if_neg F]at z;rw[g,if_neg E]at o;by_cases p:a=j
  ·rw[if_pos p]at z;cases z;by_cases q:b=j
   ·rw[if_pos q]at o;cases o;exact YX _
   ·rw[if_neg q]at o;exact h.1 (j-1) b x v (by omega) A (by omega) q h1 o
  ·rw[if_neg p]at z;by_cases q:b=j
   ·rw[if_pos q]at o;cases o;exact h.1 a (j-1) u x (by omega) (by omega) p (by omega) z h1
   ·rw[if_neg q]at o;exact h.1 a b u v C A p q z o
 ·intro b u v A B z o;rw[g,if_pos rfl]at z;cases z;rw[g,if_neg (by omega)]at o
  by_cases q:b=j
  ·rw[if_pos q]at o;cases o;omega
  ·rw[if_neg q]at o;have:=h.1 (j-1) b x v (by omega) B (by omega) q h1 o;omega
def Xm(l:aa)(hl:l.length≤1000000)(i:Nat)(hi:i<l.length)(h:qW i l):dh (yC FF 0 FF (i:Int) l) λ r=>List.Perm r l∧qW (i+1) r:=by
 have:=dM (λ n (s:Nat×aa)=>yC FF 0 n (s.1:Int) s.2) (λ s=>s.1≤i∧List.Perm s.2 l∧ql s.2 i s.1) (λ s=>s.1) (λ r=>List.Perm r l∧qW (i+1) r) (by
  rintro n ⟨j,m⟩ ⟨h1,u,z⟩ k;simp only at h1 u z k⊢;have hm:=u.length_eq;simp only[yC];refine bh (Q:=λ b=>(b=true→0<j∧∃x y,m[j-1]? =some x∧m[j]? =some y∧y<x)∧(b=false→j=0∨∃x y,m[j-1]? =some x∧m[j]? =some y∧x≤y)) (cq (λ h=>bV (by omega) (cM (by simp;omega) λ _ _ _=>cM (by simp;omega) λ y p _=>?_)) λ _=>.ret ⟨by simp,λ _=>.inl (by omega)⟩) λ b _ B=>bu (λ e=>?_) λ e=>.ret ⟨u,z.done (B.2 e)⟩
  ·rw[dj (by omega) (by omega),show(j:Int)-1=((j-1:Nat):Int) by omega]
   rw[Yf]at p;refine bV (by omega) (cM (by simp;omega) λ _ _ _=>cM (by simp;omega) λ x o _=>bJ (UP _ _) (.ret ?_))
   rw[Yf]at o;exact⟨λ q=>⟨by omega,x,y,o,p,YM q⟩,λ q=>.inr ⟨x,y,o,p,by have:=Wb q;omega⟩⟩
  ·obtain⟨C,x,y,o,p,A⟩:=B.1 e;rw[dj (x:=(j:Int)-1) (by omega) (by omega),show(j:Int)-1=((j-1:Nat):Int) by omega]
   simp only[Yf];rw[o,p];simp only[Y1];refine bV (by omega) (bV (by omega) (bV (by omega) (bV (by omega) (cM (by simp;omega) λ _ _ _=>cM (by simp;omega) λ _ _ _=>?_))))
   refine k (j-1,_) ⟨by simp only;omega,?_,z.step C h1 o p A⟩ (by simp only;omega)
   refine List.Perm.trans ?_ u;have H:=(Ys.1 o);have F:=(Ys.1 p);obtain⟨b1,rfl⟩:=H;obtain⟨E,rfl⟩:=F;exact List.set_set_perm E b1) FF (i,l) ⟨Yg _,List.Perm.refl _,λ a b x y h1 u z h4=>h a b x y h1 (by omega),λ b x y h1 u=>by omega⟩ (by simp only[FF];omega)
 exact this
def ZN(l:aa)(hl:l.length≤12):dh (Ds FF l) λ r=>List.Perm r l∧qW r.length r:=by
 have o:dh (Dw FF 0 (l.length:Int) l) λ r=>List.Perm r l∧qW r.length r:=by
  unfold Dw;have:=dM (λ n (s:Nat×aa)=>Ak FF 0 (l.length:Int) n (s.1:Int) s.2) (λ s=>s.1≤l.length+1∧List.Perm s.2 l∧qW s.1 s.2) (λ s=>l.length+1-s.1) (λ r=>List.Perm r l∧qW r.length r) (by
   rintro n ⟨i,m⟩ ⟨h1,p,q⟩ k;simp only at h1 p q k⊢;have hm:=p.length_eq;simp only[Ak];refine cq (λ h=>?_) λ _=>.ret ⟨p,λ a b x y A q2=>q a b x y A (by omega)⟩
   refine bh (Q:=λ r=>List.Perm r l∧qW (i+1) r) (bh (Xm m (by omega) i (by omega) q) λ r _ j=>.ret ⟨j.1.trans p,j.2⟩) λ r _ j=>?_
   rw[w1 (by omega)]
   exact k (i+1,r) ⟨by simp only;omega,j⟩ (by simp only;omega)) FF (1,l) ⟨by simp only;omega,List.Perm.refl _,λ a b x y h1 p z u=>by
    have a0:a=0:=by omega
    have b0:b=0:=by omega
    subst a0;subst b0;rw[z]at u;cases u;exact YX _⟩ (by simp only[FF];omega)
  rw[dj (by decide) (by decide)]
  exact bh this λ r _ j=>.ret j
 unfold Ds;rw[Ya];refine bh (Q:=λ _=>True) ?_ λ y _ _=>bh (Q:=λ r=>List.Perm r l∧qW r.length r) ?_ λ r _ j=>.ret j
 ·have:l.length=0∨l.length=1∨l.length=2∨l.length=3∨l.length=4∨l.length=5∨l.length=6∨l.length=7∨l.length=8∨l.length=9∨l.length=10∨l.length=11∨l.length=12:=by omega
  rcases this with h|h|h|h|h|h|h|h|h|h|h|h|h<;>rw[h]<;>exact⟨_,rfl,trivial⟩
 ·show dh (Dy FF 0 (l.length:Int) y l (3999999+1)) _;simp only[Dy];rw[dj (by omega) (by omega)]
  refine cq (λ _=>bh o λ r _ j=>.ret j) λ h=>absurd h (by omega)
def qa(ag mt:aa):List da:=List.zipWith da.mk ag mt
def XT{ag mt:aa}(B:kg ag)(hm:mt.length=ag.length){c x:Int}{p:Nat}(h1:ag[p]? =some c)(F:mt[p]? =some x):yj FF (qa ag mt) c FF 0 0=some x:=by
 have h7:=B.n7;have H:(qa ag mt).length=ag.length:=by unfold qa;rw[List.length_zipWith];omega
 have hp:=(Ys.1 h1).1;have:=dM (λ n (s:Int×Nat)=>yj FF (qa ag mt) c n s.1 (s.2:Int)) (λ s=>s.2≤ag.length∧(p<s.2→s.1=x)) (λ s=>ag.length-s.2) (λ r=>r=x) (by
  rintro n ⟨z,i⟩ ⟨E,A⟩ k;simp only at E A k⊢;simp only[yj];rw[H];refine cq (λ h=>?_) λ h=>.ret (A (by omega))
  refine bh (Q:=λ r=>p<i+1→r=x) (bV (by omega) (cM (by simp;omega) λ y j _=>?_)) λ r _ C=>?_
  ·rw[Yf]at j;unfold qa at j;rw[List.getElem?_zipWith]at j;have o:=Y3 (show i<ag.length by omega)
   have u:=Y3 (show i<mt.length by omega)
   rw[o,u]at j;cases j;refine bu (λ e=>.ret λ _=>?_) λ e=>.ret λ q=>?_
   ·have e:ag[i]=c:=by simpa using e
    have:=B.inj (h1) (by rw[o,e])
    subst this;rw[F]at u;cases u;rfl
   ·refine A ?_;have:p≠i:=λ z=>by
     subst z;rw[h1]at o;cases o;simp at e
    omega
  ·rw[w1 (by omega)]
   exact k (r,i+1) ⟨by simp only;omega,C⟩ (by simp only;omega)) FF (0,0) ⟨YL _,λ q=>by simp at q⟩ (by simp only[FF];omega)
 obtain⟨r,e,rfl⟩:=this;exact e
def ZnE{ag mt:aa}(B:py FF ag=some true)(u:kg ag)(z:mt.length=ag.length):dh (CY FF ag (qa ag mt)) (nF mt ((ag.length-1)/2)):=by
 have h7:=u.n7;have h1:=u.n1;unfold CY;rw[B,Y1,YV,Y7];have:=dM (λ n (s:Nat×aa)=>z6 FF ag (qa ag mt) n (s.1:Int) s.2) (λ s=>s.1≤ag.length∧s.2=mt.take s.1) (λ s=>ag.length-s.1) (λ r=>r=mt) (by
  rintro n ⟨i,m⟩ ⟨h1,p⟩ k;simp only at h1 p k⊢;simp only[z6];refine cq (λ h=>?_) λ h=>.ret (by rw[p,Yk (by omega)])
  refine bh (Q:=λ r=>r=mt.take (i+1)) (bV (by omega) (cM (by simp;omega) λ y o _=>?_)) λ r _ j=>?_
  ·rw[Yf]at o;have A:=Y3 (show i<mt.length by omega)
   refine bJ (XT u z o A) (bV (by rw[p,Y9];unfold bI;omega) (.ret ?_))
   rw[W8,A,p];rfl
  ·rw[w1 (by omega)]
   exact k (i+1,r) ⟨by simp only;omega,j⟩ (by simp only;omega)) FF (0,[]) ⟨YL _,by simp⟩ (by simp only[FF];omega)
 refine bh this λ l _ C=>?_;subst C
 refine bh (ZN l (by omega)) λ r _ j=>?_
 have q:=j.1.length_eq;rw[Ya];have hd:Int.tdiv ((r.length:Int)-1) 2=(((r.length-1)/2:Nat):Int):=by
  rw[show(r.length:Int)-1=((r.length-1:Nat):Int) by omega];rfl
 rw[dj (x:=(r.length:Int)-1) (by omega) (by omega),hd,dj (by omega) (by omega)]
 refine bV (by omega) (cM (by simp;omega) λ _ _ _=>cM (by simp;omega) λ y o _=>.ret ?_)
 rw[Yf]at o;have:=(j.2.QP o).perm j.1;rwa [q,z]at this
structure Wd where
 g:Gh
 N:Int→Nd
 G:Lg
structure eC(ag:aa)(w:Wd):Prop where
 inv:Inv ag w.g w.N
 gc:w.G=[]∨∃T m,cm ag w.g T m∧w.G=(w.g.L T).take (m+1)
structure Ext(i:Int)(w w':Wd):Prop where
 vt:∀v T,w.g.vt v T≠0→w'.g.vt v T=w.g.vt v T
 vo:∀v T,v≠i→w'.g.vt v T=w.g.vt v T
 D:∀T c d,w.g.D T c=some d→w'.g.D T c=some d
 el:∀T,w'.g.el T=w.g.el T∨w.g.el T=0∧w'.g.el T=i
 L:∀T,w.g.L T<+:w'.g.L T
 Lo:∀T,w'.g.el T≠i→w'.g.L T=w.g.L T
 ac:∀v T,w.g.ac v T≤w'.g.ac v T
 N:∀j,j≠i→w'.N j=w.N j
 G:w.G<+:w'.G
def Ext.refl(i:Int)(w:Wd):Ext i w w:=⟨λ _ _ _=>rfl,λ _ _ _=>rfl,λ _ _ _ h=>h,λ _=>.inl rfl,λ _=>YH _,λ _ _=>rfl,λ _ _=>Yg _,λ _ _=>rfl,YH _⟩
def Ext.trans{i:Int}{a b c:Wd}(h:Ext i a b)(k:Ext i b c):Ext i a c where
 vt v T q:=by rw[k.vt v T (by rw[h.vt v T q];exact q),h.vt v T q]
 vo v T q:=by rw[k.vo v T q,h.vo v T q]
 D T c d q:=k.D T c d (h.D T c d q)
 el T:=by
  rcases k.el T with q|⟨q,o⟩
  ·rw[q];exact h.el T
  ·rcases h.el T with p|⟨p,p2⟩
   ·exact .inr ⟨by rw[←p];exact q,o⟩
   ·exact .inr ⟨p,o⟩
 L T:=(h.L T).trans (k.L T)
 Lo T q:=by
  rw[k.Lo T q];refine h.Lo T λ p=>?_;rcases k.el T with e|⟨e,u⟩
  ·exact q (by rw[e];exact p)
  ·exact q u
 ac v T:=Wh (h.ac v T) (k.ac v T)
 N j q:=by rw[k.N j q,h.N j q]
 G:=h.G.trans k.G
def Ext.Eo{i:Int}{w w':Wd}(h:Ext i w w'){T:Int}(q:w.g.el T≠0):w'.g.el T=w.g.el T:=(h.el T).resolve_right λ k=>q k.1
def Ext.cm{i:Int}{w w':Wd}{ag:aa}(h:Ext i w w'){T:Int}{m:Nat}(c:cm ag w.g T m):cm ag w'.g T m:=by
 obtain⟨⟨e,u,o⟩,A,p,q⟩:=c;exact⟨⟨e,B4 (h.L T) u,o⟩,A,p,λ j hj=>Wx (q j hj) (h.ac j T)⟩
def Ext.take{i:Int}{w w':Wd}(h:Ext i w w'){c:Nat}(j:c≤w.G.length):w'.G.take c=w.G.take c:=tj h.G j
def dW(G:Lg)(t:ca):Lg:=G.take t.an.toNat++t.Entries
def Ext.lg{i:Int}{w w':Wd}(h:Ext i w w'){t:ca}(hc:t.an≤w.G.length):dW w'.G t=dW w.G t:=by
 unfold dW;rw[h.take (by omega)]
def CK(ag:aa)(w:Wd)(T c:Int):Prop:=c=0∨∃(T1:Int) (m:Nat),T1≤T∧c≤m+1∧cm ag w.g T1 m
def CK.ext{ag:aa}{i:Int}{w w':Wd}{T c:Int}(h:CK ag w T c)(e:Ext i w w'):CK ag w' T c:=h.imp id λ⟨T1,m,a,b,c⟩=>⟨T1,m,a,b,e.cm c⟩
def CK.mono{ag:aa}{w:Wd}{T T' c i:Int}(h:CK ag w T c)(hT:T≤T')(h0:0≤i)(hc:i≤c):CK ag w T' i:=by
 rcases h with h|⟨T1,m,a,b,d⟩
 ·exact .inl (by omega)
 ·exact .inr ⟨T1,m,by omega,by omega,d⟩
variable (S:Lg→aj→Prop)
structure iA(ag:aa)(w:Wd)(m:cj):Prop where
 k1:m.Kind=1→∃d:Lg,w.g.D m.Term m.cV=some d∧m.Index=(d.length:Int)∧m.bM=dH d
 k2:m.Kind=2→m.mc=true→w.g.vt m.cV m.Term=m.To∧m.To≠0
 k3:m.Kind=3→w.g.el m.Term=m.cV∧m.cV≠0∧∃p c:Nat,m.Index=(p:Int)∧p≤(w.g.L m.Term).length∧m.bM=dH ((w.g.L m.Term).take p)∧m.Entries<+:(w.g.L m.Term).drop p∧m.ah=(c:Int)∧c≤w.G.length∧w.G.take c<+:w.g.L m.Term∧CK ag w m.Term c
 k4:m.Kind=4→m.mc=true→m.Index≤(w.g.ac m.cV m.Term:Int)
 k5:m.Kind=5→w.g.el m.Term=m.cV∧m.cV≠0∧∃p:Nat,m.Index=(p:Int)∧p≤w.G.length∧w.G.take p<+:w.g.L m.Term∧m.bM=dH (w.G.take p)∧S (w.G.take p) m.Data∧CK ag w m.Term p
def iA.ext{S:Lg→aj→Prop}{ag:aa}{i:Int}{w w':Wd}{m:cj}(h:iA S ag w m)(e:Ext i w w'):iA S ag w' m where
 k1 q:=by
  obtain⟨d,a,b⟩:=h.k1 q;exact⟨d,e.D _ _ _ a,b⟩
 k2 q y:=by
  obtain⟨a,b⟩:=h.k2 q y;exact⟨by rw[e.vt _ _ (by rw[a];exact b)];exact a,b⟩
 k3 q:=by
  obtain⟨a,b,p,c,h1,j,u,x,o,A,C,z⟩:=h.k3 q;refine⟨by rw[e.Eo (by rw[a];exact b)];exact a,b,p,c,h1,Wh j (e.L _).length_le,by rw[tj (e.L _) j];exact u,?_,o,Wh A e.G.length_le,by rw[e.take A];exact C.trans (e.L _),z.ext e⟩
  obtain⟨r,B⟩:=e.L m.Term;rw[←B,VE j];exact x.trans (WD ..)
 k4 q y:=by
  have:=h.k4 q y;have:=e.ac m.cV m.Term;omega
 k5 q:=by
  obtain⟨a,b,p,h1,j,u,x,o,z⟩:=h.k5 q;exact⟨by rw[e.Eo (by rw[a];exact b)];exact a,b,p,h1,Wh j e.G.length_le,by rw[e.take j];exact u.trans (e.L _),by rw[e.take j];exact x,by rw[e.take j];exact o,z.ext e⟩
structure jI(ag:aa)(w:Wd)(i T V:Int)(t:ca)(s:aj):Prop where
 n:w.N i=⟨T,dW w.G t⟩
 vt:w.g.vt i T=V
 b0:0≤t.an
 bG:t.an≤w.G.length
 bt:t.au=dH (w.G.take t.an.toNat)
 ck:CK ag w T t.an
 sn:S (w.G.take t.an.toNat) s
def jI.r9{S:Lg→aj→Prop}{ag:aa}{i j T V:Int}{w w':Wd}{t:ca}{s:aj}(h:jI S ag w j T V t s)(e:Ext i w w')(p:w'.N j=w.N j)(q:w'.g.vt j T=w.g.vt j T):jI S ag w' j T V t s:=by
 have hb:=h.bG;have o:w'.G.take t.an.toNat=w.G.take t.an.toNat:=e.take (by omega)
 exact⟨by rw[p,h.n,e.lg h.bG],by rw[q];exact h.vt,h.b0,Vr h.bG (by have:=e.G.length_le;omega),by rw[o];exact h.bt,h.ck.imp id λ⟨T1,m,a,b,c⟩=>⟨T1,m,a,b,e.cm c⟩,by rw[o];exact h.sn⟩
def jI.ext{S:Lg→aj→Prop}{ag:aa}{i j T V:Int}{w w':Wd}{t:ca}{s:aj}(h:jI S ag w j T V t s)(e:Ext i w w')(hj:j≠i):jI S ag w' j T V t s:=h.r9 e (e.N j hj) (e.vo _ _ hj)
structure HO(ag:aa)(w:Wd)(h:cP):Prop where
 d:jI S ag w h.Id h.Term h.bn h.Trail h.bj
 c0:h.Trail.an≤h.ah
 c1:h.ah≤bQ h.Trail
 cG:h.ah≤w.G.length
 cl:(dW w.G h.Trail).take h.ah.toNat=w.G.take h.ah.toNat
 ck:CK ag w h.Term h.ah
structure lM(ag:aa)(w:Wd)(h:cP)(nx mt:aa):Prop where
 el:w.g.el h.Term=h.Id
 lg:w.g.L h.Term=dW w.G h.Trail
 nl:nx.length=ag.length
 ml:mt.length=ag.length
 nm:∀(k:Nat) (c x y:Int),ag[k]? =some c→mt[k]? =some x→nx[k]? =some y→0≤x∧x≤(w.g.ac c h.Term:Int)∧x≤bQ h.Trail∧x<y∧y≤bQ h.Trail+1
 ow:∀k:Nat,ag[k]? =some h.Id→mt[k]? =some (bQ h.Trail)
 t1:1≤h.Term
def KU(ag:aa)(h:cP)(mt:aa):Prop:=∀c,nF mt ((ag.length-1)/2) c→h.ah<c→gp h.Trail c≠some h.Term
structure kY(ag:aa)(w:Wd)(h:cP)(v nx mt:aa):Prop where
 r1:h.bE=1→w.g.D h.Term h.Id=some (dW w.G h.Trail)∧w.g.el h.Term≠h.Id∧h.bn=h.Id∧∀x∈v,w.g.vt x h.Term=h.Id
 r2:h.bE=2→lM ag w h nx mt∧KU ag h mt
def HO.ext{S:Lg→aj→Prop}{ag:aa}{i:Int}{w w':Wd}{h:cP}(o:HO S ag w h)(e:Ext i w w')(hj:h.Id≠i):HO S ag w' h:=by
 have hc:=o.cG;exact⟨o.d.ext e hj,o.c0,o.c1,by have:=e.G.length_le;omega,by rw[e.lg o.d.bG,e.take (by omega)];exact o.cl,o.ck.imp id λ⟨T1,m,a,b,c⟩=>⟨T1,m,a,b,e.cm c⟩⟩
def kY.ext{S:Lg→aj→Prop}{ag:aa}{i:Int}{w w':Wd}{h:cP}{v nx mt:aa}(r:kY ag w h v nx mt)(o:HO S ag w h)(e:Ext i w w')(hj:h.Id≠i)(h0:h.Id≠0):kY ag w' h v nx mt where
 r1 q:=by
  obtain⟨a,b,c,d⟩:=r.r1 q;refine⟨by rw[e.lg o.d.bG];exact e.D _ _ _ a,λ k=>?_,c,λ x j=>by rw[e.vt _ _ (by rw[d x j];exact h0)];exact d x j⟩
  rcases e.el h.Term with p|⟨-,p⟩
  ·exact b (p▸k)
  ·exact hj (k.symm.trans p)
 r2 q:=by
  obtain⟨⟨a,b,c,d,f,k,t⟩,z⟩:=r.r2 q;have a':=e.Eo (T:=h.Term) (by rw[a];exact h0)
  refine⟨⟨a'.trans a,by rw[e.Lo _ (by rw[a',a];exact hj),e.lg o.d.bG];exact b,c,d,λ k c x y h1 A u=>?_,k,t⟩,z⟩
  obtain⟨C,u2,B⟩:=f k c x y h1 A u;exact⟨C,by have:=e.ac c h.Term;omega,B⟩
structure CP(ag:aa)(w:Wd)(i:Int)(t:ca)(s:aj)(T' V':Int)(t':ca)(s':aj):Prop where
 p1:∃w',Ext i w w'∧eC ag w'∧w'.G=w.G∧jI S ag w' i T' V' t s
 p2:t'.an=t.an→t'.au=t.au→s'=s→∀q≤t'.Entries.length,(∀k≤t.Entries.length,k≤t'.Entries.length→t.Entries.take k=t'.Entries.take k→k≤q)→∃w',Ext i w w'∧eC ag w'∧w'.G=w.G∧jI S ag w' i T' V' (ca.mk t.an t.au (t'.Entries.take q)) s
 p3:¬(t'.an=t.an∧t'.au=t.au∧s'=s)→(t'=(if gp t t'.an=some t'.au then dZ t t'.an t'.au else ca.mk t'.an t'.au []))∧∃w',Ext i w w'∧eC ag w'∧w'.G=w.G∧jI S ag w' i T' V' t' s'
def UQ{G:Lg}{t:ca}(h0:0≤t.an)(h1:t.an≤G.length):((dW G t).length:Int)=bQ t:=by
 unfold dW bQ;rw[Y8,Y9];omega
def NL{G:Lg}{t:ca}(h0:0≤t.an)(h1:t.an≤G.length){k:Nat}(i:k≤t.an.toNat):(dW G t).take k=G.take k:=by
 unfold dW;rw[W4 (by rw[Y9];omega),WH,YY i]
def Jp{G:Lg}{t:ca}(h0:0≤t.an)(h1:t.an≤G.length)(k:Nat):(dW G t).drop (t.an.toNat+k)=t.Entries.drop k:=by
 have:(G.take t.an.toNat).length=t.an.toNat:=by rw[Y9];omega
 unfold dW;rw[List.drop_append,WQ (by omega),YQ,this];congr 1;omega
def B7{G:Lg}{t:ca}(h0:0≤t.an)(h1:t.an≤G.length)(k:Nat):(dW G t)[t.an.toNat+k]? =t.Entries[k]? :=by
 have:=YU (λ l:Lg=>l[0]?) (Jp h0 h1 k);simpa using this
def CG{l:Lg}{k:Nat}{e:bx}(h:l[k]? =some e):dH (l.take (k+1))=e.Term:=JQ (k:=k) (by rw[WU (by omega)];exact h) (by have:=(Ys.1 h).1;rw[Y9];omega)
def xA{G:Lg}{t:ca}(h0:0≤t.an)(h1:t.an≤G.length)(i:t.au=dH (G.take t.an.toNat)){n x:Int}(h:gp t n=some x):dH ((dW G t).take n.toNat)=x:=by
 have hr:=tf h;unfold gp at h;by_cases q:n=t.an
 ·rw[if_pos q]at h;cases h;rw[q,NL h0 h1 (Yg _),i]
 ·rw[if_neg q,if_pos (by omega),Yq]at h
  obtain⟨e,j,rfl⟩:=h;rw[show n.toNat=t.an.toNat+(n-t.an-1).toNat+1 by omega]
  exact CG (by rw[B7 h0 h1];exact j)
def rr{G:Lg}{t:ca}(h0:0≤t.an)(h1:t.an≤G.length){n:Int}(hn:t.an≤n∧n≤bQ t):∃x,gp t n=some x:=by
 cases e:gp t n with
 |some x=>exact⟨x,rfl⟩
 |none=>have:=Jt e;omega
structure CO(ag:aa):Prop where
 ck:py FF ag=some true
 ok:kg ag
 lt:∀x∈ag,x<9223372036854775808
 ps:∀x∈ag,1≤x
structure HN(ag:aa)(h:cP):Prop where
 cf:h.bg=ag
 id:h.Id∈ag
 t0:0≤h.Term
 t1:h.Term≤1099511627776
 tc:TC h.Trail
structure ff(S:Lg→aj→Prop)(ag:aa)(w:Wd)(i:Int)(m:cj):Prop where
 ok:iA S ag w m
 mb:MB m
 fr:m.cV=i
 dst:m.To∈ag
 ne:m.To≠i
section
variable {S:Lg→aj→Prop}{ag:aa}{w:Wd}{h:cP}{v nx mt:aa}{out:List cj}
def HO.lG(o:HO S ag w h):((dW w.G h.Trail).length:Int)=bQ h.Trail:=UQ o.d.b0 o.d.bG
def I4(C:CO ag)(hn:HN ag h)(o:HO S ag w h)(r:lM ag w h nx mt)(ho:out.length≤1000){k:Nat}{c:Int}(A:ag[k]? =some c)(p:c≠h.Id):
 dh (yi FF (k:Int) h v nx mt out) λ s=>s.1=h∧∃m,s.2=out++[m]∧ff S ag w h.Id m:=by
 obtain⟨r1,r2,r3,r4,O,r6, -⟩:=r;have b0:=o.d.b0;have bG:=o.d.bG;have tc:=hn.tc.ok;have V:=tc.b1;have Y:=tc.t1;have tl:=tc.last;have c1:=o.c1;have cG:=o.cG;have c0:=o.c0;have U:=(Ys.1 A).1;have i:=YO A;have J:=C.ps _ hn.id;have:=C.lt _ hn.id;have:=C.lt _ i;have:=hn.t1;obtain⟨x,R⟩:∃x,mt[k]? =some x:=⟨_,Y3 (by omega)⟩
 obtain⟨y,F⟩:∃y,nx[k]? =some y:=⟨_,Y3 (by omega)⟩
 obtain⟨y1,y2,X,y4,T⟩:=O k c x y A R F;unfold bQ at X T c1;unfold yi;simp only[Yf];rw[F,hn.cf,A];simp only[Y1];refine bV (by omega) (cq (λ q=>bV (by omega) (bJ (qN _ h v nx mt out ho) (.ret ⟨rfl,_,rfl,?_⟩))) λ q=>?_)
 ·refine⟨⟨(λ q=>by cases q),(λ q=>by cases q),(λ q=>by cases q),(λ q=>by cases q),λ _=>⟨r1,by show h.Id≠0;omega,h.Trail.an.toNat,by simp only;omega,by omega,?_,o.d.bt,o.d.sn,by rw[show((h.Trail.an.toNat:Nat):Int)=h.Trail.an by omega];exact o.d.ck⟩⟩,⟨show(5:Int)<_ by decide,by assumption,by assumption,show h.Term<_ by omega,show h.Trail.an<_ by omega,show h.Trail.au<_ by omega,show(0:Int)<_ by decide,λ e E=>by cases E⟩,rfl,i,p⟩
  show _<+:w.g.L h.Term;rw[r2];exact WD ..
 ·rw[dj (x:=y-1) (by omega) (by omega)]
  obtain⟨z,B⟩:=rr b0 bG (show h.Trail.an≤y-1∧y-1≤bQ h.Trail by unfold bQ;omega)
  obtain⟨j,M⟩:=hn.tc.slice (f:=y) (by omega) (by unfold bQ;omega)
  rw[hn.tc.kB,B,Y1];refine bV (by omega) (bJ M (bJ (qN _ h v nx mt out ho) (.ret ⟨rfl,_,rfl,?_⟩)))
  have Q:z≤1099511627776∧0≤z:=by
   obtain⟨u,e1,H⟩:=JI h.Trail (y-1) (by have:=tc.len;omega)
   rw[hn.tc.kB,B]at e1;cases e1;exact⟨H.2.2,H.2.1⟩
  refine⟨⟨(λ q=>by cases q),(λ q=>by cases q),λ _=>⟨r1,by show h.Id≠0;omega,(y-1).toNat,h.ah.toNat,by simp only;omega,?_,?_,?_,by simp only;omega,by omega,?_,by rw[show((h.ah.toNat:Nat):Int)=h.ah by omega];exact o.ck⟩,(λ q=>by cases q),λ q=>by cases q⟩,⟨show(3:Int)<_ by decide,by assumption,by assumption,show h.Term<_ by omega,show y-1<_ by omega,show z<_ by omega,show h.ah<_ by omega,λ e E=>?_⟩,rfl,i,p⟩
  ·show _≤(w.g.L h.Term).length;have:=o.lG;unfold bQ at this;rw[r2];omega
  ·show z=dH ((w.g.L h.Term).take _);rw[r2];exact(xA b0 bG o.d.bt B).symm
  ·show _<+:(w.g.L h.Term).drop _;rw[r2,show(y-1).toNat=h.Trail.an.toNat+(y-h.Trail.an-1).toNat by omega,Jp b0 bG]
   exact Wp ..
  ·show _<+:w.g.L h.Term;rw[r2,←o.cl];exact Wp ..
  ·have:=tc.mQ e (Wq (YZ E));omega
def J'(x:CO ag)(hn:HN ag h)(o:HO S ag w h)(r:lM ag w h nx mt)(ho:out.length≤900)(C:∀m∈out,ff S ag w h.Id m):
 dh (wK FF h v nx mt out) λ s=>s.1=h∧s.2.1=v∧s.2.2.1=nx∧s.2.2.2.1=mt∧s.2.2.2.2.length≤out.length+7∧∀m∈s.2.2.2.2,ff S ag w h.Id m:=by
 have h7:=x.ok.n7;unfold wK;have:=dM (λ n (s:Nat×cP×List cj)=>Ag FF h v nx mt n (s.1:Int) s.2.1 s.2.2) (λ s=>s.1≤ag.length∧s.2.1=h∧s.2.2.length≤out.length+s.1∧∀m∈s.2.2,ff S ag w h.Id m) (λ s=>ag.length-s.1)
  (λ s=>s.1=h∧s.2.length≤out.length+7∧∀m∈s.2,ff S ag w h.Id m) (by
   rintro n ⟨i,g,o2⟩ ⟨h1,z,E,u⟩ k;simp only at h1 z E u k⊢;subst z;simp only[Ag];rw[hn.cf];refine cq (λ q=>?_) λ _=>.ret ⟨rfl,by simp only;omega,u⟩
   refine bh (Q:=λ s=>s.1=g∧s.2.length≤out.length+(i+1)∧∀m∈s.2,ff S ag w g.Id m) (bV (by omega) (cM (by simp;omega) λ y A _=>bu (λ e=>bh (I4 x hn o r (by omega) (by rw[Yf]at A;exact A) (by simpa using e)) λ s _ j=>.ret (by
    obtain⟨e,m,B,F⟩:=j;refine⟨e,by rw[B];simp;omega,λ m' p=>?_⟩
    rw[B,YA,Yu]at p;rcases p with q|rfl
    ·exact u _ q
    ·exact F)) λ _=>.ret ⟨rfl,by simp only;omega,u⟩)) λ s _ j=>?_
   rw[w1 (by omega)]
   exact k (i+1,s.1,s.2) ⟨by simp only;omega,j.1,j.2.1,j.2.2⟩ (by simp only;omega)) FF (0,h,out) ⟨YL _,rfl,Yg _,C⟩ (by simp only[FF];omega)
 exact bh this λ s _ j=>.ret ⟨j.1,rfl,rfl,rfl,j.2⟩
end
section
variable {S:Lg→aj→Prop}{ag:aa}{w w' w1:Wd}{i:Int}
def eC.of(h:eC ag w)(e:Ext i w w')(j:w'.G=w.G)(o:Inv ag w'.g w'.N):eC ag w':=
 ⟨o,h.gc.imp (λ q=>j.trans q) λ⟨T,m,c,q⟩=>⟨T,m,e.cm c,by rw[j,q];exact(tj (e.L T) (by have:=(c.ch (N:=w.N)).lt;omega)).symm⟩⟩
def eC.raise(h:eC ag w)(T:Int)(o:(w.N i).tm≤T):∃w',Ext i w w'∧eC ag w'∧w'.G=w.G∧w'.N i=⟨T,(w.N i).lg⟩∧w'.g=w.g:=by
 have e:Ext i w ⟨w.g,up w.N i ⟨T,(w.N i).lg⟩,w.G⟩:=⟨λ _ _ _=>rfl,λ _ _ _=>rfl,λ _ _ _ h=>h,λ _=>.inl rfl,λ _=>YH _,λ _ _=>rfl,λ _ _=>Yg _,λ j q=>gU _ _ q,YH _⟩;exact⟨_,e,h.of e rfl (h.inv.raise i T o),rfl,qe ..,rfl⟩
def eC.mT(h:eC ag w){c:Int}{d:Lg}(o:w.g.vt i (w.N i).tm=0∨w.g.vt i (w.N i).tm=c)(hd:w.g.D (w.N i).tm c=some d)(hn:dH (w.N i).lg<dH d∨dH d=dH (w.N i).lg∧(w.N i).lg.length≤d.length):
 ∃w',Ext i w w'∧eC ag w'∧w'.G=w.G∧w'.N=w.N∧w'.g=w.g.mT i (w.N i).tm c:=by
 have e:Ext i w ⟨w.g.mT i (w.N i).tm c,w.N,w.G⟩:=by
  refine⟨λ v T q=>?_,λ v T q=>if_neg λ k=>q k.1,λ _ _ _ h=>h,λ _=>.inl rfl,λ _=>YH _,λ _ _=>rfl,λ _ _=>Yg _,λ j q=>rfl,YH _⟩;show(if v=i∧T=(w.N i).tm then c else w.g.vt v T)=w.g.vt v T
  split
  ·rename_i k;obtain⟨rfl,rfl⟩:=k;rcases o with p|p
   ·exact absurd p q
   ·exact p.symm
  ·rfl
 exact⟨_,e,h.of e rfl (h.inv.mT i c o hd hn),rfl,rfl,rfl⟩
def eC.jV(h:eC ag w)(hd:w.g.D (w.N i).tm i=none)(o:WL w.g.L ((w.N i).tm-1) (w.N i).lg):∃w',Ext i w w'∧eC ag w'∧w'.G=w.G∧w'.N=w.N∧w'.g=w.g.jV (w.N i).tm i (w.N i).lg:=by
 have e:Ext i w ⟨w.g.jV (w.N i).tm i (w.N i).lg,w.N,w.G⟩:=by
  refine⟨λ _ _ _=>rfl,λ _ _ _=>rfl,λ T c d q=>?_,λ _=>.inl rfl,λ _=>YH _,λ _ _=>rfl,λ _ _=>Yg _,λ j q=>rfl,YH _⟩;show(if T=(w.N i).tm∧c=i then _ else w.g.D T c)=_
  rw[if_neg λ k=>by rw[k.1,k.2,hd]at q;cases q];exact q
 exact⟨_,e,h.of e rfl (h.inv.jV i hd o),rfl,rfl,rfl⟩
def eC.gb(h:eC ag w)(h0:i≠0)(o:w.g.el (w.N i).tm≠i)(hd:w.g.D (w.N i).tm i=some (w.N i).lg){V:aa}(u:Qm ag V)(x:∀v∈V,w.g.vt v (w.N i).tm=i):
 ∃w',Ext i w w'∧eC ag w'∧w'.G=w.G∧w'.N=w.N∧w'.g=w.g.gb (w.N i).tm i (w.N i).lg:=by
 have o:w.g.el (w.N i).tm=0:=by
  refine V5 λ q=>?_;obtain⟨V',d,h1,z, -⟩:=h.inv.es _ q
  obtain⟨v,A,y⟩:=h1.meet u;exact o ((z v A).symm.trans (x v y))
 have p:=h.inv.e0 _ o;have e:Ext i w ⟨w.g.gb (w.N i).tm i (w.N i).lg,w.N,w.G⟩:=by
  refine⟨λ _ _ _=>rfl,λ _ _ _=>rfl,λ _ _ _ q=>q,λ T=>?_,λ T=>?_,λ T q=>?_,λ _ _=>Yg _,λ j q=>rfl,YH _⟩
  ·by_cases q:T=(w.N i).tm
   ·subst q;exact .inr ⟨o,qe ..⟩
   ·exact .inl (gU _ _ q)
  ·by_cases q:T=(w.N i).tm
   ·subst q;rw[p];exact Uk
   ·rw[show(w.g.gb (w.N i).tm i (w.N i).lg).L T=w.g.L T from gU _ _ q];exact YH _
  ·refine gU _ _ λ k=>q ?_;subst k;exact qe ..
 exact⟨_,e,h.of e rfl (h.inv.gb i h0 o hd u x),rfl,rfl,rfl⟩
def eC.app(h:eC ag w)(a:bx)(h0:i≠0)(o:w.g.el (w.N i).tm=i)(u:(w.N i).lg=w.g.L (w.N i).tm)(p:a.Term=(w.N i).tm)(h1:1≤a.Term):
 ∃w',Ext i w w'∧eC ag w'∧w'.G=w.G∧w'.N i=⟨(w.N i).tm,(w.N i).lg++[a]⟩∧w'.g=w.g.app (w.N i).tm a:=by
 have e:Ext i w ⟨w.g.app (w.N i).tm a,up w.N i ⟨(w.N i).tm,(w.N i).lg++[a]⟩,w.G⟩:=by
  refine⟨λ _ _ _=>rfl,λ _ _ _=>rfl,λ _ _ _ q=>q,λ T=>.inl rfl,λ T=>?_,λ T q=>?_,λ _ _=>Yg _,λ j q=>gU _ _ q,YH _⟩
  ·by_cases q:T=(w.N i).tm
   ·subst q;rw[show(w.g.app (w.N i).tm a).L (w.N i).tm=w.g.L (w.N i).tm++[a]from qe ..];exact WD ..
   ·rw[show(w.g.app (w.N i).tm a).L T=w.g.L T from gU _ _ q];exact YH _
  ·refine gU _ _ λ k=>q ?_;subst k;exact o
 exact⟨_,e,h.of e rfl (h.inv.app i a (by rw[o];exact h0) u p h1),rfl,qe ..,rfl⟩
def eC.sX(h:eC ag w){n:Nat}(hn:n≤(w.g.L (w.N i).tm).length)(o:(w.g.L (w.N i).tm).take n<+:(w.N i).lg):∃w',Ext i w w'∧eC ag w'∧w'.G=w.G∧w'.N=w.N∧w'.g=w.g.sX i (w.N i).tm n∧n≤w'.g.ac i (w.N i).tm:=by
 have e:Ext i w ⟨w.g.sX i (w.N i).tm n,w.N,w.G⟩:=by
  refine⟨λ _ _ _=>rfl,λ _ _ _=>rfl,λ _ _ _ q=>q,λ T=>.inl rfl,λ T=>YH _,λ T q=>rfl,λ v T=>?_,λ j q=>rfl,YH _⟩;show w.g.ac v T≤(if v=i∧T=(w.N i).tm then max (w.g.ac v T) n else w.g.ac v T)
  split<;>omega
 refine⟨_,e,h.of e rfl (h.inv.sX i hn o),rfl,rfl,rfl,?_⟩;show n≤(if i=i∧(w.N i).tm=(w.N i).tm then max (w.g.ac i (w.N i).tm) n else w.g.ac i (w.N i).tm);rw[if_pos ⟨rfl,rfl⟩];omega
def eC.follow(h:eC ag w){l:Lg}(x:w.g.el (w.N i).tm≠0)(o:l<+:w.g.L (w.N i).tm)(u:∀p,p<+:(w.N i).lg→p<+:w.g.L (w.N i).tm→p<+:l):
 ∃w',Ext i w w'∧eC ag w'∧w'.G=w.G∧w'.N i=⟨(w.N i).tm,l⟩∧w'.g=w.g:=by
 have e:Ext i w ⟨w.g,up w.N i ⟨(w.N i).tm,l⟩,w.G⟩:=⟨λ _ _ _=>rfl,λ _ _ _=>rfl,λ _ _ _ h=>h,λ _=>.inl rfl,λ _=>YH _,λ _ _=>rfl,λ _ _=>Yg _,λ j q=>gU _ _ q,YH _⟩;exact⟨_,e,h.of e rfl (h.inv.follow i x o u),rfl,qe ..,rfl⟩
def eC.xu(h:eC ag w){T:Int}{m:Nat}(c:cm ag w.g T m):∃w',Ext i w w'∧eC ag w'∧w'.N=w.N∧w'.g=w.g∧(w'.G=w.G∨w'.G.length=m+1)∧(w.g.L T).take (m+1) <+:w'.G:=by
 have hm:=(c.ch (N:=w.N)).lt;by_cases q:w.G.length<m+1
 ·have o:w.G<+:(w.g.L T).take (m+1):=by
   rcases h.gc with k|⟨T1,p,c1,k⟩
   ·rw[k];exact Uk
   ·have:=(c1.ch (N:=w.N)).lt;rw[k];exact c1.cmp c h.inv (by rw[k,Y9]at q;omega)
  exact⟨⟨w.g,w.N,(w.g.L T).take (m+1)⟩,⟨λ _ _ _=>rfl,λ _ _ _=>rfl,λ _ _ _ h=>h,λ _=>.inl rfl,λ _=>YH _,λ _ _=>rfl,λ _ _=>Yg _,λ j q=>rfl,o⟩,⟨h.inv,.inr ⟨T,m,c,rfl⟩⟩,rfl,rfl,.inr (by rw[Y9];omega),YH _⟩
 ·refine⟨w,Ext.refl i w,h,rfl,rfl,.inl rfl,?_⟩;rcases h.gc with k|⟨T1,p,c1,k⟩
  ·rw[k]at q;simp at q
  ·have:=(c1.ch (N:=w.N)).lt;rw[k];exact c.cmp c1 h.inv (by rw[k,Y9]at q;omega)
def eC.QU(h:eC ag w){T1 T:Int}{m k:Nat}(c:cm ag w.g T1 m)(p:T1≤T)(o:w.g.el T≠0)(hk:k≤m+1)(u:k≤w.G.length):w.G.take k<+:w.g.L T:=by
 have h1:=c.pre h.inv p o;have hm:=(c.ch (N:=w.N)).lt;rcases h.gc with q|⟨T2,j,i,q⟩
 ·rw[q];simp
 ·have h2:=(i.ch (N:=w.N)).lt;rw[q,Y9]at u;refine List.IsPrefix.trans ?_ h1;by_cases z:m≤j
  ·exact uM (by rw[q];exact Wp ..) (c.cmp i h.inv z) (by simp only[Y9];omega)
  ·exact(by rw[q];exact Wp .. :w.G.take k<+:(w.g.L T2).take (j+1)).trans (i.cmp c h.inv (by omega))
end
end Go.T
