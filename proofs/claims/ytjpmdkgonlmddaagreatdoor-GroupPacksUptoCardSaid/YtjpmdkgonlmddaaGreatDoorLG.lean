import Derived.Test.YtjpmdkgonlmddaaGreatDoorLE
import Derived.Test.YtjpmdkgonlmddaaGreatDoorLF
import Derived.Test.YtjpmdkgonlmddaaGreatDoorLC
set_option linter.defProp false
set_option linter.unusedVariables false
set_option maxRecDepth 20000
namespace Go.T
open Go Go.Ab
def Fg(i:Int)(fs:List cA)(o:i<9223372036854775808)(p:∀f∈fs,okF f)(hl:fs.length≤100):dh (sw FF i fs) λ b=>dw b∧b.length≤6700000:=by
 unfold sw mH;simp only[Y1];refine bV (by unfold bI;omega) ?_
 have e:=E2 (cA.mk 1 i []::fs) (λ f j=>by
  rcases Yr.1 j with rfl|q
  ·exact .inl ⟨rfl,o⟩
  ·exact p f q) (by simp;omega)
 refine bJ e ?_;cases hb:cZ (cA.mk 1 i []::fs)with
 |none=>exact .ret ⟨(λ y x=>by cases x),by decide⟩
 |some b=>
  have h1:=zE hb;have u:=(zF hb).2;simp only[Yh]at u;exact .ret ⟨h1,by simp only;omega⟩
def Ng(t:ca)(n tm:Int)(hl:t.Entries.length≤10000):dh (uS FF t n tm) λ r=>r.Entries.length≤10000:=by
 unfold uS;refine bh (JI _ _ (by omega)) λ z _ _=>bh (Q:=λ _=>True) (bu (λ _=>.ret trivial) λ _=>.ret trivial) λ b _ _=>bu (λ _=>bh (Tr t n (by omega)) λ y _ i=>.ret ?_) λ _=>.ret (by simp)
 by_cases e:y.2=true
 ·obtain⟨-,k,e⟩:=i.1 e;rw[e,Yw];omega
 ·rw[i.2 (by simpa using e)];simp
def ZQ(j:bD)(c:List bx)(hc:c.length≤10000):dh (tD FF j c FF 0) λ r=>0≤r∧r≤c.length∧r≤j.Trail.Entries.length:=by
 have:=dM (λ n (i:Nat)=>tD FF j c n (i:Int)) (λ i=>i≤c.length∧i≤j.Trail.Entries.length) (λ i=>c.length-i) (λ r=>0≤r∧r≤(c.length:Int)∧r≤(j.Trail.Entries.length:Int)) (by
  rintro n i ⟨h1,h2⟩ k;simp only[tD];refine bh (Q:=λ b=>b=true→i<c.length∧i<j.Trail.Entries.length) (cq (λ a=>cq (λ b=>bV (by omega) (cM (by simp;omega) λ _ _ _=>bV (by omega) (cM (by simp;omega) λ _ _ _=>.ret λ _=>⟨by omega,by omega⟩))) λ _=>.ret (by simp)) λ _=>.ret (by simp)) λ b _ o=>bu (λ e=>?_) λ _=>.ret ⟨by omega,by omega,by omega⟩
  obtain⟨a,b⟩:=o e;rw[w1 (by omega)]
  exact k (i+1) ⟨a,b⟩ (by omega)) FF 0 ⟨YL _,YL _⟩ (by simp only[FF];omega)
 exact this
def qX(k:Nat)(l:List aa):Prop:=l.length≤k∧∀x∈l,dw x∧x.length≤6700000
def qX.add{k:Nat}{l:List aa}{x:aa}(h:qX k l)(j:dw x∧x.length≤6700000):qX (k+1) (l++[x]):=
 ⟨by have:=h.1;simp;omega,λ y i=>by
  rcases YA.1 i with q|q
  ·exact h.2 y q
  ·simp only[Yu]at q;subst q;exact j⟩
def ZR(j:bD)(c s:Int)(p:Nat)(u:List aa)(ht:j.Trail.Entries.length≤10000)(A:∀e∈j.Trail.Entries,e.Term<9223372036854775808)(h0:qX p u)(C:p≤10)(hs:0≤s):
 dh (tC FF j c s FF 0 u) (qX (p+10000)):=by
 have:=dM (λ n (q:Nat×List aa)=>tC FF j c s n (q.1:Int) q.2) (λ q=>q.1≤j.Trail.Entries.length-s.toNat∧qX (p+q.1) q.2) (λ q=>j.Trail.Entries.length-s.toNat-q.1) (qX (p+10000)) (by
  rintro n ⟨i,l⟩ ⟨h1,o⟩ k;simp only at h1 o k⊢;simp only[tC];simp only[Iy,Yw,Ya];refine cq (λ a=>?_) λ _=>.ret ⟨by have:=o.1;omega,o.2⟩
  have hl:=o.1;refine bV (by omega) (cM (by simp;omega) λ y _ E=>?_)
  simp only[mH,wm,Y1];refine bh (Fg 2 _ (by decide) (λ f z=>?_) (by simp)) λ x _ B=>bV (by unfold bI;omega) ?_
  ·simp only[Yr,Vf,or_false]at z;rcases z with rfl|rfl|rfl
   ·exact xH (KW _)
   ·exact xH (A _ (Wq E))
   ·exact M6 _
  ·rw[w1 (by omega)]
   exact k (i+1,_) ⟨by simp only;omega,o.add B⟩ (by simp only;omega)) FF (0,u) ⟨YL _,h0⟩ (by simp only[FF];omega)
 exact this
structure KK(k:bD):Prop where
 c:k.bg.length≤7
 e:k.Trail.Entries.length≤4096
 tm:k.Term<9223372036854775808
 vt:k.bn<9223372036854775808
 bs:k.Trail.an<9223372036854775808
 bt:k.Trail.au<9223372036854775808
 et:∀e∈k.Trail.Entries,e.Term<9223372036854775808
def RK.kk{r:bD}(h:RK r):KK r:=by
 refine⟨h.ok.cf.n7,h.ok.tr.len,by have:=h.ok.Gt;omega,?_,by have:=h.ok.tr.b1;omega,by have:=h.ok.tr.t1;omega,λ e i=>by have:=(h.ok.tr.mQ e i).2.1;omega⟩
 rcases h.ok.vt with q|q
 ·rw[q];decide
 ·exact h.cb _ q
def ZpZ(k i:bD)(A:k.Trail.Entries.length≤10000)(p:KK i):dh (tt FF k i) (qX 10010):=by
 unfold tt;refine bh (Q:=λ _=>True) (bu (λ _=>.ret trivial) λ _=>.ret trivial) λ b _ _=>?_;refine bh (Q:=qX 1) (bu (λ _=>?_) λ _=>.ret ⟨by simp,λ x j=>by cases j⟩) λ l1 _ h1=>?_
 ·simp only[mH,Y1];refine bh (Fg 1 _ (by decide) (λ f o=>?_) (by simp)) λ x _ j=>bV (by decide) (.ret ?_)
  ·simp only[Yr,Vf,or_false]at o;rcases o with rfl|rfl
   ·exact xH p.tm
   ·exact xH p.vt
  ·exact qX.add (k:=0) ⟨by simp,λ x j=>by cases j⟩ j
 refine bh (Q:=λ _=>True) (bu (λ _=>.ret trivial) λ _=>bu (λ _=>.ret trivial) λ _=>.ret trivial) λ b2 _ _=>?_;refine bh (Q:=λ y:List aa×Int×Int×List bx=>qX 2 y.1∧y.2.2.2.length≤10000) (bu (λ _=>?_) λ _=>.ret ⟨⟨by have:=h1.1;simp only;omega,h1.2⟩,A⟩) λ y _ u=>?_
 ·simp only[mH,wm,Y1];refine bh (Fg 3 _ (by decide) (λ f o=>?_) (by simp)) λ x _ j=>bV (by have:=h1.1;unfold bI;omega) ?_
  ·simp only[Yr,Vf,or_false]at o;rcases o with rfl|rfl|rfl
   ·exact xH p.bs
   ·exact xH p.bt
   ·exact M6 _
  ·exact bh (Ng _ _ _ A) λ z _ C=>.ret ⟨h1.add j,C⟩
 obtain⟨l2,c1,c2,E⟩:=y;obtain⟨u,B⟩:=u;simp only at u B⊢;have he:=p.e;refine bh (ZQ i E B) λ s _ hs=>bV (by omega) (bV (by omega) (bV (by omega) ?_))
 refine bh (ZR i c1 s 2 l2 (by omega) p.et u (by decide) (by omega)) λ l3 _ q=>?_
 refine bh (Q:=λ _=>True) (bu (λ _=>.ret trivial) λ _=>.ret trivial) λ b3 _ _=>?_;refine bh (Q:=qX 10010) (bu (λ _=>?_) λ _=>.ret ⟨by have:=q.1;omega,q.2⟩) λ l4 _ F=>.ret F
 simp only[mH,Y1];refine bh (Fg 4 _ (by decide) (λ f o=>?_) (by simp)) λ x _ j=>bV (by have:=q.1;unfold bI;omega) (.ret ?_)
 ·simp only[Yr,Vf,or_false]at o;rw[o];exact xH (KW _)
 ·have:=q.add j;exact⟨by have:=this.1;omega,this.2⟩
def Zr(a b:aa)(ha:a.length≤1000000):dh (Du FF a b) λ r=>r=true→a=b:=by
 unfold Du;refine bu (λ _=>.ret (by simp)) λ e=>?_
 have e:a.length=b.length:=by
  have e:((a.length:Int)==(b.length:Int))=true:=by simpa using e
  exact Int.ofNat.inj (by simpa using e)
 refine jm (Pr:=λ r=>r=false) (Ps:=λ _=>a=b) ?_ (λ r h=>.ret (by rw[h];simp)) λ _ h=>.ret λ _=>h
 have:=dM (λ m (i:Nat)=>z8 FF a b m (i:Int)) (λ i=>i≤a.length∧a.take i=b.take i) (λ i=>a.length-i) (λ o=>(∀r,o=.inl r→r=false)∧∀u,o=.inr u→a=b) (by
  rintro m i ⟨h1,z⟩ k;simp only[z8];refine cq (λ h=>?_) λ h=>.ret ⟨(λ r q=>by cases q),λ u _=>by rwa [Yk (by omega),Yk (by omega)]at z⟩
  refine bV (by omega) (cM (by simp;omega) λ x p _=>bV (by omega) (cM (by simp;omega) λ y j _=>bu (λ _=>.ret ⟨(λ r q=>by cases q;rfl),λ u q=>by cases q⟩) λ q=>?_))
  rw[Yf]at p j;rw[w1 (by omega)]
  have q:x=y:=by simpa using q
  exact k (i+1) ⟨by omega,by rw[W8,W8,p,j,z,q]⟩ (by omega)) FF 0 ⟨YL _,by simp⟩ (by simp only[FF];omega)
 exact this
def O0(ks:aa):∀(n:Nat) (b:aa) (t:Int) (a:List cA),zZ FF ks n b t a=nD FF ks n b t a
 |0,_,_,_=>rfl
 |n+1,b,t,a=>by
  simp only[zZ,nD];cases ks[t.toNat]? with
  |none=>rfl
  |some k=>simp only[Y1,O0 ks n]
def OZ(ks b:aa):zI FF b ks=lL FF ks b:=by
 unfold zI lL;rw[O0]
def O2(ks b:aa)(p:ks.length≤1000)(z:∀k∈ks,k=1∨k=3)(B:dw b)(o:b.length≤1073741824):dh (lL FF ks b) λ y=>(y.1=0→j5 ks y.2∧(ks=[]→b=[]))∧(y.1≠0→y.2=[]):=by
 rcases Fl ks b p z B o with ⟨fs,h1,A⟩|⟨-,e,x,h⟩
 ·refine⟨_,A,λ _=>⟨h1.1,λ q=>?_⟩,by simp⟩
  subst q;obtain⟨u,a,i,j⟩:=h1;cases fs with
  |nil=>simp[cZ]at i;subst i;simpa using j
  |cons f r=>exact absurd u (by simp[j5])
 ·exact⟨_,h,λ q=>absurd q x,λ _=>rfl⟩
def rj:∀{ks:aa} {fs:List cA},j5 ks fs→∀(i:Nat) (y:cA),fs[i]? =some y→y.N<9223372036854775808∧0≤y.N
 | [],[],_,i,y,h=>by simp at h
 | [],f::r,h,_,_,_=>absurd h (by simp[j5])
 |k::ks,[],h,_,_,_=>absurd h (by simp[j5])
 |k::ks,f::r,h,i,y,hy=>by
  obtain⟨h1,j⟩:=h;cases i with
  |zero=>
   simp only[Yv,Y5]at hy;subst hy;obtain⟨-,h|h⟩:=h1
   ·exact⟨h.2.2.1,h.2.1⟩
   ·rw[h.2.1];exact⟨by decide,by decide⟩
  |succ i=>exact rj j i y (by simpa using hy)
def oF:List (Int×aa):=bW (4:Int) ((1:Int)::((1:Int)::[])) (bW (3:Int) ((1:Int)::((1:Int)::((1:Int)::((3:Int)::[])))) (bW (2:Int) ((1:Int)::((1:Int)::((1:Int)::((3:Int)::[])))) (bW (1:Int) ((1:Int)::((1:Int)::((1:Int)::[]))) [])))
def Ou:Fv FF=some oF:=by kernel_rfl
def TU:oF=[(1,[1,1,1]),(2,[1,1,1,3]),(3,[1,1,1,3]),(4,[1,1])]:=by decide
def Xl(x:Int):(x=1∧az x oF=some [1,1,1])∨(x=2∧az x oF=some [1,1,1,3])∨(x=3∧az x oF=some [1,1,1,3])∨(x=4∧az x oF=some [1,1])∨az x oF=none:=by
 rw[TU];by_cases h1:x=1
 ·subst h1;exact .inl ⟨rfl,by decide⟩
 by_cases j:x=2
 ·subst j;exact .inr (.inl ⟨rfl,by decide⟩)
 by_cases o:x=3
 ·subst o;exact .inr (.inr (.inl ⟨rfl,by decide⟩))
 by_cases i:x=4
 ·subst i;exact .inr (.inr (.inr (.inl ⟨rfl,by decide⟩)))
 ·refine .inr (.inr (.inr (.inr ?_)));simp[az,h1,j,o,i]
def jF(r:bD):bD:=bD.mk r.Id r.bg r.Term r.bn 0 0 r.Trail r.bj r.Trail.an 10 10 [] [] []
def EH(r:bD)(j:RK r)(a:Int)(b:Int)(t:ca)(s:aj)(ht:t.Entries.length≤10000):
 dh (Option.bind (nN FF (bD.mk r.Id r.bg a b r.bE r.bo t s r.ah r.Left r.bK r.bO r.Next r.Match)) λ y=>Option.bind (k9 FF y) λ z=>some (y,z)) λ y=>y.2=true→RK y.1∧y.1.bg=r.bg∧y.1.Id=r.Id∧jF y.1=y.1:=by
 have i:=j.ok.small;refine bJ (Fh _ ⟨i.c,by show t.Entries.length≤_;omega,i.v,i.n,i.m⟩) (bh (Ff _ ⟨i.c,by show t.Entries.length≤_;omega,by simp,by simp,by simp⟩) λ z o h=>.ret λ e=>?_)
 have e:z=true:=e;subst e;exact⟨⟨o,h rfl,j.cb⟩,rfl,rfl,rfl⟩
def ZI(r:bD)(B:RK r)(b:aa)(T:dw b)(R:b.length≤1073741824):dh (va FF r b) λ y=>y.2=true→RK y.1∧y.1.bg=r.bg∧y.1.Id=r.Id∧jF y.1=y.1:=by
 unfold va;have hm:=B.ok.small;have H:=B.ok.tr;have Sk:=H.last;have V:=H.b0;refine bu (λ _=>.ret (by simp)) λ e=>bJ Ou ?_
 have o:0<b.length:=by
  cases b with
  |nil=>simp at e
  |cons=>simp
 refine cM (by simpa using o) λ x C _=>?_
 rw[WJ]at C;have key:∀ks,(∀k∈ks,k=1∨k=3)→ks.length≤4→dh (zI FF b ks) λ y=>(y.1=0→j5 ks y.2∧(ks=[]→b=[]))∧(y.1≠0→y.2=[]):=λ ks h1 h2=>by
  rw[OZ];exact O2 ks b (by omega) h1 T R
 have E:∀(y:Int×List cA),dh (bif y.1 != 0 then some true else some (((List.map cA.c y.2).length:Int)==0)) λ c=>c=false→y.1=0:=λ y=>bu (λ _=>.ret (by simp)) λ e=>.ret λ _=>by simpa using e
 have w1:∀n:Int,0≤n→n<9223372036854775808→IntKind.wrap IntKind.i64 (n-r.Trail.an)=n-r.Trail.an:=λ n h1 h2=>dj (by omega) (by omega)
 have O:IntKind.wrap IntKind.i64 (r.Trail.an+(r.Trail.Entries.length:Int))=r.Trail.an+(r.Trail.Entries.length:Int):=dj (by omega) (by omega)
 have Z:IntKind.wrap IntKind.i64 (r.Trail.an+(r.Trail.Entries.length:Int)+1)=r.Trail.an+(r.Trail.Entries.length:Int)+1:=dj (by omega) (by omega)
 have U:=H.len;rcases Xl x with ⟨rfl,h⟩|⟨rfl,h⟩|⟨rfl,h⟩|⟨rfl,h⟩|h
 ·rw[h];simp only[YS,Y4,YJ];refine bh (key _ (by simp) (by simp)) λ y _ u=>bh (E y) λ c _ p=>bu (λ _=>.ret (by simp)) λ e=>?_
  have hn:=(u.1 (p e)).1;have i:=B' hn;refine cM (by rw[i];decide) λ z _ _=>cM (by rw[i];decide) λ z _ _=>cM (by simpa using o) λ x' j _=>?_
  rw[WJ,C]at j;cases j;simp only[show((1:Int)==1)=true from rfl,Y4]
  exact cM (by rw[i];decide) λ z _ _=>cM (by rw[i];decide) λ z _ _=>EH r B _ _ _ _ (by omega)
 ·rw[h];simp only[YS,Y4,YJ];refine bh (key _ (by simp) (by simp)) λ y _ u=>bh (E y) λ c _ p=>bu (λ _=>.ret (by simp)) λ e=>?_
  have hn:=(u.1 (p e)).1;have i:=B' hn;refine cM (by rw[i];decide) λ z _ _=>cM (by rw[i];decide) λ z F _=>cM (by simpa using o) λ x' j _=>?_
  rw[WJ,C]at j;cases j;simp only[show((2:Int)==1)=false from rfl,show((2:Int)==2)=true from rfl,Y4,Y7,Ya]
  obtain⟨n1,J⟩:=rj hn _ _ F;rw[O,Z,w1 z.N J n1];refine bh (Q:=λ c=>c=false→r.Trail.an<z.N∧z.N≤r.Trail.an+(r.Trail.Entries.length:Int)+1) (cq (λ _=>.ret (by simp)) λ a=>.ret λ q=>⟨by omega,by have:=Wb q;omega⟩) λ c _ p=>bu (λ _=>.ret (by simp)) λ e=>?_
  obtain⟨X,q2⟩:=p e;have w4:IntKind.wrap IntKind.i64 (z.N-r.Trail.an-1)=z.N-r.Trail.an-1:=dj (by omega) (by omega)
  simp only[w4];refine bV (by omega) (bV (by omega) (bV (by omega) (bJ (uU _ (by rw[Y9];unfold bI;omega)) ?_)))
  refine cM (by rw[i];decide) λ z _ _=>cM (by rw[i];decide) λ z _ _=>cM (by rw[i];decide) λ z _ _=>cM (by rw[i];decide) λ z _ _=>bV (by rw[Y9];unfold bI;omega) (EH r B _ _ _ _ ?_)
  simp only[Y8,Y9,Yh,Yx];omega
 ·rw[h];simp only[YS,Y4,YJ];refine bh (key _ (by simp) (by simp)) λ y _ u=>bh (E y) λ c _ p=>bu (λ _=>.ret (by simp)) λ e=>?_
  have hn:=(u.1 (p e)).1;have i:=B' hn;refine cM (by rw[i];decide) λ z _ _=>cM (by rw[i];decide) λ z F _=>cM (by simpa using o) λ x' j _=>?_
  rw[WJ,C]at j;cases j;simp only[show((3:Int)==1)=false from rfl,show((3:Int)==2)=false from rfl,show((3:Int)==3)=true from rfl,Y4,Y7]
  refine jm (Pr:=λ q:bD×Bool=>q.2=false) (Ps:=λ q:Int×Int×List bx×aj=>q.2.2.1.length≤10000) ?_ (λ q A=>.ret (by rw[A];simp)) (λ q A=>EH r B _ _ _ _ A)
  refine cM (by rw[i];decide) λ M _ _=>cM (by rw[i];decide) λ M _ _=>bh (Ng _ _ _ (by omega)) λ t _ Y=>cM (by rw[i];decide) λ M _ _=>cM (by rw[i];decide) λ M _ _=>.ret ⟨(λ q e=>by cases e),λ q e=>by cases e;exact Y⟩
 ·rw[h];simp only[YS,Y4,YJ];refine bh (key _ (by simp) (by simp)) λ y _ u=>bh (E y) λ c _ p=>bu (λ _=>.ret (by simp)) λ e=>?_
  have hn:=(u.1 (p e)).1;have i:=B' hn;refine cM (by rw[i];decide) λ z _ _=>cM (by rw[i];decide) λ z F _=>cM (by simpa using o) λ x' j _=>?_
  rw[WJ,C]at j;cases j;simp only[show((4:Int)==1)=false from rfl,show((4:Int)==2)=false from rfl,show((4:Int)==3)=false from rfl,show((4:Int)==4)=true from rfl,Y4,Y7,Ya]
  obtain⟨n1,J⟩:=rj hn _ _ F;refine jm (Pr:=λ q:bD×Bool=>q.2=false) (Ps:=λ q:Int×Int×List bx×aj=>q.2.2.1.length≤10000) ?_ (λ q A=>.ret (by rw[A];simp)) (λ q A=>EH r B _ _ _ _ A)
  rw[O,w1 z.N J n1];refine bh (Q:=λ c=>c=false→r.Trail.an≤z.N∧z.N≤r.Trail.an+(r.Trail.Entries.length:Int)) (cq (λ _=>.ret (by simp)) λ a=>.ret λ q=>⟨by omega,by have:=Wb q;omega⟩) λ c _ p=>bu (λ _=>.ret ⟨(λ q e=>by cases e;rfl),λ q e=>by cases e⟩) λ e=>?_
  obtain⟨X,q2⟩:=p e;refine bV (by omega) (bV (by omega) (bV (by omega) (bJ (uU _ (by rw[Y9];unfold bI;omega)) (.ret ⟨(λ q e=>by cases e),λ q e=>by cases e;simp only[Y9];omega⟩))))
 ·rw[h];simp only[Vx,Y7];refine bh (O2 [] b (by simp) (by simp) T R) λ y _ u=>bh (E y) λ c _ p=>bu (λ _=>.ret (by simp)) λ e=>?_
  have:=(u.1 (p e)).2 rfl;rw[this]at o;simp at o
def Jf(l:aa)(h:l.length≤1000000):sF FF l=some l:=Ch l (lim _ h)
def r0(id:Int)(ag:aa):bD:=bD.mk id ag 0 0 0 0 (ca.mk 0 0 []) [] 0 10 10 [] [] []
def XW(id:Int)(ag:aa)(i:ag.length≤1000000)(j:∀x∈ag,x<9223372036854775808):dh (xN FF id ag) λ y=>y.2=0→y.1=r0 id ag∧RK (r0 id ag):=by
 unfold xN;refine bJ (Jf _ i) (bh (Ff (r0 id ag) ⟨i,by simp[r0],by simp[r0],by simp[r0],by simp[r0]⟩) λ b e h=>bu (λ _=>.ret (by simp)) λ q=>.ret λ _=>⟨rfl,?_⟩)
 have q:b=true:=by simpa using q
 subst q;exact⟨e,h rfl,j⟩
abbrev OpB:=bD×Int×Int×Fs×bD×List bP×aj×Int×Int
abbrev OpE:=bD×Int×Int×Fs×List bP
abbrev Gm:=Int×Int×aa×Int×Int×Int×Int×Int×Int×List bx×aj×Int×Int×Int×aa×aa×aa
def lz(q:Gm):bD:=bD.mk q.2.1 q.2.2.1 q.2.2.2.1 q.2.2.2.2.1 q.2.2.2.2.2.1 q.2.2.2.2.2.2.1 (ca.mk q.2.2.2.2.2.2.2.1 q.2.2.2.2.2.2.2.2.1 q.2.2.2.2.2.2.2.2.2.1) q.2.2.2.2.2.2.2.2.2.2.1 q.2.2.2.2.2.2.2.2.2.2.2.1 q.2.2.2.2.2.2.2.2.2.2.2.2.1 q.2.2.2.2.2.2.2.2.2.2.2.2.2.1 q.2.2.2.2.2.2.2.2.2.2.2.2.2.2.1 q.2.2.2.2.2.2.2.2.2.2.2.2.2.2.2.1 q.2.2.2.2.2.2.2.2.2.2.2.2.2.2.2.2
structure CF(ag:aa):Prop where
 ck:py FF ag=some true
 ok:kg ag
 lt:∀x∈ag,x<9223372036854775808
def kg.El{l:aa}(h:kg l):∀(i:Nat) (a:Int),l[i]? =some a→1≤a
 |0,a,e=>by
  obtain⟨x,h1,j⟩:=h.pos;rw[h1]at e;cases e;exact j
 |i+1,a,e=>by
  have o:i+1<l.length:=by
   by_cases q:i+1<l.length
   ·exact q
   ·rw[Wn (by omega)]at e;cases e
  obtain⟨x,y,h1,j,h3⟩:=h.inc i o;rw[j]at e;cases e;have:=kg.El h i x h1;omega
def Z4{ag:aa}(j:CF ag){id:Int}(h:id∈ag):dh (k9 FF (r0 id ag)) λ b=>b=true:=by
 have h1:1≤id:=by
  obtain⟨i,A,e⟩:=Wc h;exact j.ok.El i id (by rw[Y3 A,e])
 have hl:=j.ok.n7;have u:dh (sv FF id (r0 id ag)) λ b=>b=true:=by
  unfold sv;exact bu (λ _=>.ret rfl) λ _=>bh (wC ag id (by omega)) λ b _ q=>.ret (q.2 h)
 have h0:sv FF 0 (r0 id ag)=some true:=rfl;have z:k9 FF (r0 id ag)=Option.bind (Option.bind (py FF ag) λ o=>bif !o then some true else bif id==0 then some true else Option.bind (sv FF id (r0 id ag)) λ p=>bif !p then some true else some false) λ t=>bif t then some false else some true:=by
  have t1:ma FF (ca.mk 0 0 [])=some true:=by kernel_rfl
  have y:qP FF (ca.mk 0 0 [])=some (0,0):=by kernel_rfl
  unfold k9;simp only[show(r0 id ag).bg=ag from rfl,show(r0 id ag).Id=id from rfl,show(r0 id ag).bn=0 from rfl,show(r0 id ag).bo=0 from rfl,h0,Y1,show(r0 id ag).Trail=ca.mk 0 0 []from rfl,t1,y]
  rfl
 rw[z];refine bh (Q:=λ t=>t=false) (bJ j.ck ?_) λ t _ x=>by subst x;exact .ret rfl
 refine bu (λ e=>by cases e) λ _=>bu (λ e=>absurd (show id=0 by simpa using e) (by omega)) λ _=>bh u λ b _ q=>by subst q;exact .ret rfl
def MI{ag:aa}(i:CF ag){id:Int}(h:id∈ag):xN FF id ag=some (r0 id ag,0):=by
 obtain⟨b,j,rfl⟩:=Z4 i h;unfold xN;rw[Jf _ (by have:=i.ok.n7;omega)]
 simp only[Y1];rw[show k9 FF (bD.mk id ag 0 0 0 0 (ca.mk 0 0 []) [] 0 10 10 [] [] [])=some true from j]
 rfl
end Go.T
