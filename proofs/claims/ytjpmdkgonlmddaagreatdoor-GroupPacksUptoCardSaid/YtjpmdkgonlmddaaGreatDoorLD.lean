import Derived.Test.YtjpmdkgonlmddaaGreatDoorLB
set_option linter.defProp false
set_option linter.unusedVariables false
namespace Go.T
open Go Go.Ab
def wW(t:ca):(List.map bx.c t.Entries).length=t.Entries.length:=Ya ..
def lP{t:ca}(h0:0≤t.an)(h1:t.an≤1099511627776)(hl:t.Entries.length≤2000000):sr FF t=some (t.an+(t.Entries.length:Int)):=by
 unfold sr;rw[wW,dj (by omega) (by omega)]
def Zi(t:ca)(j:t.Entries.length≤2000000):dh (ma FF t) λ b=>b=true→lb t:=by
 unfold ma;refine cq (λ h0=>?_) λ _=>.ret (by simp)
 refine cq (λ h1=>?_) λ _=>.ret (by simp)
 refine cq (λ q=>?_) λ _=>.ret (by simp)
 refine cq (λ p=>?_) λ _=>.ret (by simp)
 have fin:dh (Option.bind (sr FF t) λ y=>(bif decide (y≤(1099511627776:Int))then(Option.bind (wE FF t.au t.Entries) λ y=>some y)else some false)) λ b=>b=true→((t.Entries.length:Int)≤4096)→lb t:=by
  refine bJ (lP h0 h1 j) (cq (λ o=>?_) λ _=>.ret (by simp))
  exact bh (OG _ _ j) λ y _ u=>.ret λ e i=>⟨h0,h1,q,p,by omega,o,u e⟩
 refine cq (λ _=>cq (λ i=>fin.mono λ b h e=>h e i) λ _=>.ret (by simp)) λ _=>bu (λ _=>cq (λ i=>fin.mono λ b h e=>h e i) λ _=>.ret (by simp)) λ _=>.ret (by simp)
def Nl{t:ca}(h:lb t){n:Int}(h1:t.an≤n)(h2:n≤t.an+(t.Entries.length:Int)):dh (wq FF t n) λ r=>0≤r∧r≤1099511627776:=by
 obtain⟨a0,a1,i,j,a4,a5,p⟩:=h;unfold wq;refine bu (λ _=>.ret ⟨i,j⟩) λ hn=>?_;have hn:n≠t.an:=by simpa using hn
 rw[dj (x:=n-t.an) (by omega) (by omega),dj (by omega) (by omega)]
 refine bV (by omega) (cM (by omega) λ y _ o=>.ret ?_)
 have:=p y o;omega
def Iv(t:ca)(j:t.Entries.length≤2000000):(ma FF t=some true∧lb t)∨ma FF t=some false:=by
 obtain⟨b,i,h⟩:=Zi t j;cases b with
 |true=>exact .inl ⟨i,h rfl⟩
 |false=>exact .inr i
def Jv{t:ca}(j:ma FF t=some true)(h:lb t):dh (qP FF t) λ r=>r.1=t.an+(t.Entries.length:Int)∧0≤r.2∧r.2≤1099511627776:=by
 have i:=lP h.b0 h.b1 (by have:=h.len;omega)
 unfold qP;have:=h.b0;have:=h.b1;simp only[j,i,Y1,YV,Y7];exact bh (Nl h (by omega) (by omega)) λ y _ o=>.ret ⟨rfl,o⟩
def JI(t:ca)(n:Int)(j:t.Entries.length≤2000000):dh (pt FF t n) λ r=>(r.2=true→lb t∧t.an≤n∧n≤t.an+(t.Entries.length:Int))∧0≤r.1∧r.1≤1099511627776:=by
 unfold pt;rcases Iv t j with ⟨o,h⟩|o
 ·have j:=lP h.b0 h.b1 j;refine bh (Q:=λ b=>b=false→t.an≤n∧n≤t.an+(t.Entries.length:Int)) (bJ o (cq (λ _=>.ret (by simp)) λ h1=>bJ j (.ret λ i=>⟨by omega,by have:=Wb i;omega⟩)))
   λ b _ p=>bu (λ _=>.ret ⟨by simp,by decide,by decide⟩) λ e=>?_
  obtain⟨h1,i⟩:=p e;exact bh (Nl h h1 i) λ y _ q=>.ret ⟨λ _=>⟨h,h1,i⟩,q⟩
 ·simp only[o,Y1,V2,Y4];exact .ret ⟨by simp,by decide,by decide⟩
def uU(l:List bx)(h:l.length≤bI):qT FF l=some l:=by
 unfold qT;rw[Y2 h];rfl
def Tr(t:ca)(n:Int)(hl:t.Entries.length≤1000000):dh (sq FF t n) λ r=>(r.2=true→r.1.an=n∧∃k,r.1.Entries=t.Entries.drop k)∧(r.2=false→r.1=ca.mk 0 0 []):=by
 unfold sq;refine bh (JI t n (by omega)) λ y _ i=>bu (λ e=>.ret ⟨by simp,λ _=>rfl⟩) λ e=>?_
 obtain⟨h,h1,h2⟩:=i.1 (by simpa using e)
 have:=h.b0;have:=h.b1;rw[dj (by omega) (by omega)]
 refine bV (by omega) (bV (by omega) (bV (Yg _) (bJ (uU _ (by simp;unfold bI;omega)) (.ret ⟨λ _=>⟨rfl,_,rfl⟩,by simp⟩))))
structure kg(l:aa):Prop where
 n1:1≤l.length
 n7:l.length≤7
 inc:∀i:Nat,i+1<l.length→∃a b,l[i]? =some a∧l[i+1]? =some b∧a<b
 pos:∃a,l[0]? =some a∧1≤a
def Tq(l:aa)(h7:l.length≤7)(h1:1≤l.length):dh (yl FF l FF 0) λ o=>(∀r,o=.inl r→r=false)∧(∀s,o=.inr s→∀i:Nat,i+1<l.length→∃a b,l[i]? =some a∧l[i+1]? =some b∧a<b):=by
 have e:(@cut (List AV) (some (Operand.const (Value.int IntKind.i64 (1:Int)))) none (List.map (cn IntKind.i64) l) (Int.toNat (1:Int)) (List.length l)).length=l.length-1:=by simp
 have:=dM (λ n (i:Nat)=>yl FF l n (i:Int)) (λ k=>k+1≤l.length∧∀i:Nat,i<k→∃a b,l[i]? =some a∧l[i+1]? =some b∧a<b) (λ i=>l.length-i)
  (λ o=>(∀r,o=.inl r→r=false)∧(∀s,o=.inr s→∀i:Nat,i+1<l.length→∃a b,l[i]? =some a∧l[i+1]? =some b∧a<b)) (by
   rintro n i ⟨u,q⟩ k;simp only[yl];rw[e];refine cq (λ h=>?_) λ h=>.ret ⟨(λ r e=>by cases e),λ s _ j hj=>q j (by omega)⟩
   refine bV (by omega) (cM (by simp;omega) λ y x _=>bV (by omega) (cM (by simp;omega) λ z B _=>?_))
   refine cq (λ _=>.ret ⟨(λ r e=>by cases e;rfl),λ s e=>by cases e⟩) λ A=>?_
   rw[w1 (by omega)]
   refine k (i+1) ⟨by omega,λ j hj=>?_⟩ (by omega)
   by_cases p:j=i
   ·subst p;refine⟨z,y,by simpa using B,?_,by omega⟩
    rw[YP]at x;rw[←x];congr 1;simp;omega
   ·exact q j (by omega)) FF 0 ⟨by omega,λ i u=>absurd u (We _)⟩ (by simp only[FF];omega)
 exact this
def Jh(l:aa):dh (py FF l) λ b=>b=true→kg l:=by
 unfold py;refine bh (Q:=λ b=>b=false→1≤l.length∧l.length≤7∧∃a,l[0]? =some a∧1≤a) ?_ λ b _ u=>bu (λ _=>.ret (by simp)) λ e=>?_
 ·refine cq (λ _=>.ret (by simp)) λ h1=>cq (λ _=>.ret (by simp)) λ i=>cM (by simp;omega) λ y x _=>.ret λ h=>⟨by omega,by omega,y,by simpa using x,by have:=Wb h;omega⟩
 ·obtain⟨h1,i,p⟩:=u e;refine bV (by simp;omega) (bV (Yg _) (jm (Tq l i h1) (λ r o=>.ret λ q=>by subst o;cases q) λ s j=>.ret λ _=>⟨h1,i,j,p⟩))
def JO(s:aa)(v:Int)(hl:s.length≤2000000):dh (yw FF s v) λ r=> -1≤r∧r<s.length∧(0≤r→s[r.toNat]? =some v)∧(v∈s→0≤r):=by
 unfold yw;have:=dM (λ n (i:Nat)=>Aa FF s v n (i:Int)) (λ k=>k≤s.length∧v∉s.take k) (λ i=>s.length-i)
  (λ o=>(∀r,o=.inl r→0≤r∧r<s.length∧s[r.toNat]? =some v)∧(∀u:Unit,o=.inr u→v∉s)) (by
   rintro n i ⟨hi,x⟩ k;simp only[Aa];refine cq (λ h=>?_) λ h=>.ret ⟨(λ r e=>by cases e),λ u _=>by rwa [Yk (by omega)]at x⟩
   refine bV (by omega) (cM (by simp;omega) λ y p _=>bu (λ q=>.ret ⟨λ r e=>?_,λ s e=>by cases e⟩) λ q=>?_)
   ·cases e;have:v=y:=by simpa using q
    subst this;exact⟨by omega,by omega,p⟩
   ·rw[w1 (by omega)]
    refine k (i+1) ⟨by omega,?_⟩ (by omega)
    rw[Yf]at p;rw[W8,YA,p];have:v≠y:=by simpa using q
    simpa using⟨x,this⟩) FF 0 ⟨YL _,by simp⟩ (by simp only[FF];omega)
 exact jm this (λ r j=>.ret ⟨by omega,j.2.1,λ _=>j.2.2,λ _=>j.1⟩) λ u z=>.ret ⟨by decide,by omega,λ h=>absurd h (by decide),λ h=>absurd h z⟩
def wC(s:aa)(v:Int)(j:s.length≤2000000):dh (tF FF s v) λ b=>b=true↔v∈s:=by
 unfold tF;refine bh (JO s v j) λ y _ i=>.ret ⟨λ h=>?_,λ h=>Y2 (i.2.2.2 h)⟩;exact YO (i.2.2.1 (YM h))
def ZB(ag set:aa)(hc:ag.length≤2000000)(o:set.length≤2000000):dh (u9 FF ag set) λ _=>True:=by
 unfold u9;refine bh (Q:=λ _=>True) ?_ λ y _ _=>bh (Jh ag) λ b _ _=>bu (λ _=>.ret trivial) λ _=>.ret trivial;have:=dM (λ n (s:Int×Nat)=>vc FF ag set n s.1 (s.2:Int)) (λ s=>s.2≤ag.length) (λ s=>ag.length-s.2) (λ _=>True) (by
  rintro n ⟨c,i⟩ j k;simp only at j k⊢;simp only[vc];refine cq (λ h=>?_) λ _=>.ret trivial;refine bh (Q:=λ _=>True) (bV (by omega) (cM (by simp;omega) λ y _ _=>bh (wC set y o) λ b _ _=>bu (λ _=>.ret trivial) λ _=>.ret trivial)) λ p _ _=>?_
  rw[w1 (by omega)]
  exact k (p,i+1) (by simp only;omega) (by simp only;omega)) FF (0,0) (YL _) (by simp only[FF];omega)
 exact this
def Om:∀(l c:aa),l.Nodup→(∀x∈l,x∈c)→l.length≤c.length
 | [],c,_,_=>YL _
 |a::r,c,hn,hs=>by
  obtain⟨p,o⟩:=VA.1 hn;have i:=hs a Yp;have:=Om r (c.erase a) o λ x j=>(List.mem_erase_of_ne (show x≠a from λ e=>by subst e;exact p j)).2 (hs x (Yn _ j))
  rw[List.length_erase_of_mem i]at this;have:0<c.length:=List.length_pos_of_mem i;simp only[Yh];omega
def ZpS(r:bD)(C:kg r.bg)(j:r.bO.length≤2000000):dh (CI FF r) λ b=>b=true→r.bO.Nodup∧∀v∈r.bO,v∈r.bg:=by
 have H:=C.n7;unfold CI;refine bh (Q:=λ _=>True) ?_ λ b _ _=>bu (λ _=>.ret (by simp)) λ _=>?_
 ·refine bu (λ _=>.ret trivial) λ _=>cq (λ _=>.ret trivial) λ h=>cM (by simp;omega) λ y _ _=>bu (λ _=>.ret trivial) λ _=>bh (ZB _ _ (by omega) j) λ b _ _=>.ret trivial
 have:=dM (λ n (i:Nat)=>zO FF r n (i:Int)) (λ i=>i≤r.bO.length∧(r.bO.take i).Nodup∧∀v,v∈r.bO.take i→v∈r.bg) (λ i=>r.bO.length-i)
  (λ o=>(∀b,o=.inl b→b=false)∧(∀u:Unit,o=.inr u→r.bO.Nodup∧∀v∈r.bO,v∈r.bg)) (by
   rintro n i ⟨hi,hn,x⟩ k;simp only[zO];refine cq (λ h=>?_) λ h=>.ret ⟨(λ r e=>by cases e),λ u _=>by rw[Yk (by omega)]at hn x;exact⟨hn,x⟩⟩
   refine bV (by omega) (cM (by simp;omega) λ y z _=>?_)
   rw[Yf]at z;refine bh (Q:=λ b=>b=false→y∈r.bg∧y∉r.bO.take i) ?_ λ b _ p=>bu (λ _=>.ret ⟨(λ r e=>by cases e;rfl),λ s e=>by cases e⟩) λ e=>?_
   ·refine bh (wC _ _ (by omega)) λ b _ p=>bu (λ _=>.ret (by simp)) λ e=>bV (by omega) (bV (by omega) (bV (by omega) (bh (wC _ _ (by simp;omega)) λ d _ hd=>.ret λ q=>?_)))
    rw[Yf]at hd;exact⟨p.1 (by simpa using e),λ A=>by rw[hd.2 A]at q;cases q⟩
   ·obtain⟨h1,E⟩:=p e;rw[w1 (by omega)]
    refine k (i+1) ⟨by omega,?_,?_⟩ (by omega)
    ·rw[W8,z,VB,VF];exact⟨hn,by simp,λ a F b p=>by simp only[Yu]at p;subst p;exact λ e=>E (e▸F)⟩
    ·intro v j;rw[W8,z,VB,YA]at j;rcases j with j|j
     ·exact x v j
     ·simp only[Yu]at j;subst j;exact h1) FF 0 ⟨YL _,by simp,by simp⟩ (by simp only[FF];omega)
 exact jm this (λ b p=>.ret (by subst p;simp)) λ u B=>.ret λ _=>B
structure DE(r:bD):Prop where
 nl:r.Next.length=r.bg.length
 ml:r.Match.length=r.bg.length
 mm:∀i:Nat,i<r.bg.length→∃m x,r.Match[i]? =some m∧r.Next[i]? =some x∧0≤m∧m≤r.Trail.an+(r.Trail.Entries.length:Int)∧m<x∧x≤r.Trail.an+(r.Trail.Entries.length:Int)+1
def ZqQ(r:bD)(V:kg r.bg)(O:ma FF r.Trail=some true)(C:lb r.Trail):dh (CH FF r) λ b=>b=true→DE r:=by
 have X:=V.n7;unfold CH;refine bh (Q:=λ b=>b=false→r.Next.length=r.bg.length∧r.Match.length=r.bg.length) ?_ λ b _ A=>bu (λ _=>.ret (by simp)) λ e=>?_
 ·refine bu (λ _=>.ret (by simp)) λ _=>bu (λ _=>.ret (by simp)) λ _=>bu (λ _=>.ret (by simp)) λ h1=>.ret λ R=>?_
  simp only[Ya,bne_eq_false_iff_eq]at h1 R;omega
 obtain⟨hn,T⟩:=A e;refine bh (Jv O C) λ y _ H=>?_;have h0:=C.b0;have h1:=C.last
 have:=dM (λ n (i:Nat)=>zN FF r y n (i:Int)) (λ k=>k≤r.Match.length∧∀i:Nat,i<k→∃m x,r.Match[i]? =some m∧r.Next[i]? =some x∧0≤m∧m≤y.1∧m<x∧x≤y.1+1) (λ i=>r.Match.length-i)
  (λ o=>(∀b,o=.inl b→b=false)∧(∀u:Unit,o=.inr u→∀i:Nat,i<r.Match.length→∃m x,r.Match[i]? =some m∧r.Next[i]? =some x∧0≤m∧m≤y.1∧m<x∧x≤y.1+1)) (by
   rintro n i ⟨E,J⟩ k;simp only[zN];refine cq (λ h=>?_) λ h=>.ret ⟨(λ r e=>by cases e),λ u _ j hj=>J j (by omega)⟩
   refine bV (by omega) (cM (by simp;omega) λ m z _=>?_)
   rw[Yf]at z;refine bh (Q:=λ b=>b=false→∃x,r.Next[i]? =some x∧0≤m∧m≤y.1∧m<x∧x≤y.1+1) ?_ λ b _ A=>bu (λ _=>.ret ⟨(λ r e=>by cases e;rfl),λ s e=>by cases e⟩) λ e=>?_
   ·refine cq (λ _=>.ret (by simp)) λ a1=>cq (λ _=>.ret (by simp)) λ U=>bV (by omega) (cM (by simp;omega) λ x p _=>cq (λ _=>.ret (by simp)) λ a3=>bV (by omega) (cM (by simp;omega) λ x2 q _=>.ret λ B=>?_))
    rw[p]at q;cases q;rw[Yf]at p;have B:=Wb B;rw[H.1]at B U⊢;rw[dj (by omega) (by omega)]at B
    exact⟨x,p,by omega,by omega,by omega,by omega⟩
   ·obtain⟨x,p⟩:=A e;rw[w1 (by omega)]
    refine k (i+1) ⟨by omega,λ j hj=>?_⟩ (by omega)
    by_cases F:j=i
    ·subst F;exact⟨m,x,z,p⟩
    ·exact J j (by omega)) FF 0 ⟨YL _,λ i E=>absurd E (We _)⟩ (by simp only[FF];omega)
 exact jm this (λ b A=>.ret (by subst A;simp)) λ u M=>.ret λ _=>⟨hn,T,λ i E=>by have:=M i (by omega);rwa [H.1]at this⟩
def yQ(r:bD)(n:Int):Prop:=n=0∨n∈r.bg
structure BY(r:bD):Prop where
 cf:kg r.bg
 id0:r.Id≠0
 AX:r.Id∈r.bg
 KY:0≤r.Term
 Gt:r.Term≤1099511627776
 vt:yQ r r.bn
 ld:yQ r r.bo
 tc:ma FF r.Trail=some true
 tr:lb r.Trail
 sn:r.bj.length≤60000
 SQ:r.Trail.an≤r.ah
 LU:r.ah≤r.Trail.an+(r.Trail.Entries.length:Int)
 lf:0≤r.Left∧r.Left≤100
 wt:10≤r.bK∧r.bK<20
 rl:0≤r.bE∧r.bE≤2
 vo:r.bO.length≤7∧(r.bE≠1→r.bO=[])
 kn:(r.bE=2→DE r)∧(r.bE≠2→r.Next=[]∧r.Match=[])
structure Small(r:bD):Prop where
 c:r.bg.length≤1000000
 e:r.Trail.Entries.length≤1000000
 v:r.bO.length≤1000000
 n:r.Next.length≤1000000
 m:r.Match.length≤1000000
def BY.small{r:bD}(h:BY r):Small r:=by
 have h7:=h.cf.n7;refine⟨by omega,by have:=h.tr.len;omega,by have:=h.vo.1;omega,?_,?_⟩
 ·by_cases q:r.bE=2
  ·have:=(h.kn.1 q).nl;omega
  ·rw[(h.kn.2 q).1];simp
 ·by_cases q:r.bE=2
  ·have:=(h.kn.1 q).ml;omega
  ·rw[(h.kn.2 q).2];simp
def IH(r:bD)(n:Int)(h:r.bg.length≤1000000):dh (sv FF n r) λ b=>b=true→yQ r n:=by
 unfold sv;refine bu (λ e=>.ret λ _=>.inl (by simpa using e)) λ _=>bh (wC _ _ (by omega)) λ b _ i=>.ret λ e=>.inr (i.1 e)
def Ff(r:bD)(hs:Small r):dh (k9 FF r) λ b=>b=true→BY r:=by
 obtain⟨s1,s2,s3,s4,s5⟩:=hs;unfold k9;refine bh (Q:=λ b=>b=false→kg r.bg∧r.Id≠0∧yQ r r.Id∧0≤r.Term∧r.Term≤1099511627776∧yQ r r.bn∧yQ r r.bo∧ma FF r.Trail=some true∧lb r.Trail) ?_ λ b _ i=>bu (λ _=>.ret (by simp)) λ e=>?_
 ·refine bh (Jh _) λ b _ h1=>bu (λ _=>.ret (by simp)) λ e1=>bu (λ _=>.ret (by simp)) λ O=>bh (IH r _ s1) λ b3 _ h3=>bu (λ _=>.ret (by simp)) λ E=>cq (λ _=>.ret (by simp)) λ e4=>cq (λ _=>.ret (by simp)) λ e5=>bh (IH r _ s1) λ b6 _ h6=>bu (λ _=>.ret (by simp)) λ e6=>bh (IH r _ s1) λ b7 _ Z=>bu (λ _=>.ret (by simp)) λ e7=>?_
  rcases Iv r.Trail (by omega)with ⟨u,ht⟩|u
  ·exact bJ u (.ret λ _=>⟨h1 (by simpa using e1),by simpa using O,h3 (by simpa using E),by omega,by omega,h6 (by simpa using e6),Z (by simpa using e7),u,ht⟩)
  ·exact bJ u (.ret (by simp))
 obtain⟨c1,x,c3,R,z,U,c7,c8,j⟩:=i e;have Z:=c1.n7;refine bh (Jv c8 j) λ y _ hy=>?_;refine bh (Q:=λ b=>b=false→r.bj.length≤60000∧r.Trail.an≤r.ah∧r.ah≤r.Trail.an+(r.Trail.Entries.length:Int)∧(0≤r.Left∧r.Left≤100)∧10≤r.bK∧r.bK<20) ?_ λ b _ B=>bu (λ _=>.ret (by simp)) λ O=>?_
 ·refine cq (λ _=>.ret (by simp)) λ a1=>cq (λ _=>.ret (by simp)) λ a2=>cq (λ _=>.ret (by simp)) λ a3=>cq (λ _=>.ret (by simp)) λ a4=>cq (λ _=>.ret (by simp)) λ a5=>cq (λ _=>.ret (by simp)) λ a6=>cq (λ _=>.ret (by simp)) λ a7=>.ret λ X=>?_
  have X:=Wb X;rw[hy.1]at a4;exact⟨by omega,by omega,by omega,⟨by omega,by omega⟩,by omega,by omega⟩
 obtain⟨C,J,V,H,A,T⟩:=B O;have sum:IntKind.wrap IntKind.i64 ((((List.map (cn IntKind.i64) r.Next).length:Nat):Int)+(((List.map (cn IntKind.i64) r.Match).length:Nat):Int))=((r.Next.length+r.Match.length:Nat):Int):=by
  rw[Ya,Ya,dj (by omega) (by omega)];omega
 refine bh (Q:=λ b=>b=false→(r.bE≠1→r.bO=[])∧(r.bE≠2→r.Next=[]∧r.Match=[])) ?_ λ b _ M=>bu (λ _=>.ret (by simp)) λ E=>?_
 ·have nx:∀b:Bool,b=decide ((0:Int)<((r.Next.length+r.Match.length:Nat):Int))→b=false→r.Next=[]∧r.Match=[]:=λ b i e=>by
   rw[i]at e;have:=Wb e;exact⟨YR.1 (by omega),YR.1 (by omega)⟩
  rw[sum];refine bu (λ p1=>cq (λ _=>.ret (by simp)) λ q=>?_) λ p1=>?_
  ·have Y:r.bO=[]:=YR.1 (by omega)
   refine bu (λ p2=>.ret λ e=>⟨λ _=>Y,λ _=>nx _ rfl e⟩) λ p2=>.ret λ _=>⟨λ _=>Y,λ h=>absurd (by simpa using p2) h⟩
  ·have h1:r.bE=1:=by simpa using p1
   refine bu (λ p2=>.ret λ e=>⟨λ h=>absurd h1 h,λ _=>nx _ rfl e⟩) λ p2=>?_;have:r.bE=2:=by simpa using p2
   omega
 obtain⟨o,F⟩:=M E;have AX:r.Id∈r.bg:=c3.resolve_left x;refine bu (λ p=>.ret λ _=>?_) λ p=>bu (λ p1=>?_) λ p1=>bu (λ p2=>?_) λ p2=>.ret (by simp)
 ·have h0:r.bE=0:=by simpa using p
  exact⟨c1,x,AX,R,z,U,c7,c8,j,C,J,V,H,⟨A,T⟩,by omega,⟨by rw[o (by omega)];simp,o⟩,λ h=>by omega,F⟩
 ·have h0:r.bE=1:=by simpa using p1
  exact bh (ZpS r c1 (by omega)) λ b _ i=>.ret λ e=>⟨c1,x,AX,R,z,U,c7,c8,j,C,J,V,H,⟨A,T⟩,by omega,⟨by have:=Om _ _ (i e).1 (i e).2;omega,o⟩,λ h=>by omega,F⟩
 ·have h0:r.bE=2:=by simpa using p2
  exact bh (ZqQ r c1 c8 j) λ b _ i=>.ret λ e=>⟨c1,x,AX,R,z,U,c7,c8,j,C,J,V,H,⟨A,T⟩,by omega,⟨by rw[o (by omega)];simp,o⟩,λ _=>i e,F⟩
set_option maxRecDepth 20000
def Ch(l:aa)(h:l.length≤bI):sF FF l=some l:=by
 unfold sF;rw[Y2 h];rfl
def E1(l:aa)(h:l.length≤bI):wQ FF l=some l:=by
 unfold wQ;rw[Y2 h];rfl
def lim(n:Nat)(h:n≤1000000):n≤bI:=by unfold bI;omega
def Zj(r:bD)(h:Small r):CB FF r=some r:=by
 unfold CB;rw[Ch _ (lim _ h.c),Ch _ (lim _ h.v),E1 _ (lim _ h.n),E1 _ (lim _ h.m),uU _ (lim _ h.e)];rfl
def hd(r:bD):cP:=cP.mk r.Id r.bg r.Term r.bn r.bE r.bo r.Trail r.bj r.ah r.Left r.bK
def whole(h:cP)(v n m:aa):bD:=bD.mk h.Id h.bg h.Term h.bn h.bE h.bo h.Trail h.bj h.ah h.Left h.bK v n m
def E0(r:bD)(h:Small r):wk FF r=some (hd r,r.bO,r.Next,r.Match,[]):=by
 unfold wk Fz;rw[Ch _ (lim _ h.c),Ch _ (lim _ h.v),E1 _ (lim _ h.n),E1 _ (lim _ h.m),uU _ (lim _ h.e)];rfl
def Fh(r:bD)(h:Small r):nN FF r=some (bD.mk r.Id r.bg r.Term r.bn 0 0 r.Trail r.bj r.Trail.an 10 10 [] [] []):=by
 unfold nN;rw[Zj r h];rfl
def MB(m:cj):Prop:=m.Kind<9223372036854775808∧m.cV<9223372036854775808∧m.To<9223372036854775808∧m.Term<9223372036854775808∧m.Index<9223372036854775808∧m.bM<9223372036854775808∧m.ah<9223372036854775808∧∀e∈m.Entries,e.Term<9223372036854775808
def qN(m:cj)(h:cP)(a b c:aa)(out:List cj)(ho:out.length≤1000):
 qj FF m h a b c out=some (h,out++[cj.mk m.Kind h.Id m.To h.Term m.Index m.bM m.ah m.mc m.Entries m.Data]):=by
 unfold qj;rw[Y2 (show out.length+1≤bI by unfold bI;omega)]
 rfl
def KW(x:Int):IntKind.wrap IntKind.i64 x<9223372036854775808:=by rw[YF];omega
def GF(x:Int):sD FF [x] 1=some (List.replicate 1 x):=by kernel_rfl
def GD(x:Int):sD FF [x] 2=some (List.replicate 2 x):=by kernel_rfl
def GB(x:Int):sD FF [x] 3=some (List.replicate 3 x):=by kernel_rfl
def GA(x:Int):sD FF [x] 4=some (List.replicate 4 x):=by kernel_rfl
def Gz(x:Int):sD FF [x] 5=some (List.replicate 5 x):=by kernel_rfl
def Gy(x:Int):sD FF [x] 6=some (List.replicate 6 x):=by kernel_rfl
def Gx(x:Int):sD FF [x] 7=some (List.replicate 7 x):=by kernel_rfl
def Zpa(x:Int)(k:Nat)(h1:1≤k)(h7:k≤7):sD FF [x] (k:Int)=some (List.replicate k x):=by
 have:k=1∨k=2∨k=3∨k=4∨k=5∨k=6∨k=7:=by omega
 rcases this with h|h|h|h|h|h|h<;>subst h
 ·exact GF x
 ·exact GD x
 ·exact GB x
 ·exact GA x
 ·exact Gz x
 ·exact Gy x
 ·exact Gx x
end Go.T
