import Derived.Test.YtjpmdkgonlmddaaGreatDoorLD
set_option linter.defProp false
set_option linter.unusedVariables false
set_option linter.unusedSimpArgs false
namespace Go.T
open Go Go.Ab
def gZ(s:aj):aa:=List.map (λ(b:UInt8)=>(((UInt8.toNat b):Nat):Int)) s
def vV(s:aj):(gZ s).length=s.length:=by simp[gZ]
def Mo(s:aj):dw (gZ s):=λ y i=>by
 obtain⟨b,_,rfl⟩:=W0.1 i;have:=b.toNat_lt;omega
def okF(f:cA):Prop:=(f.Kind=1∧f.N<9223372036854775808)∨f.Kind=3
def dI(f:cA):Option aa:=
 if f.Kind=1 then(if 0≤f.N then some (bH f.N.toNat)else none)else(if f.S.length≤65536 then some (bH f.S.length++gZ f.S)else none)
def cZ:List cA→Option aa
 | []=>some []
 |f::r=>match dI f with
  |none=>none
  |some a=>(cZ r).map (a++ ·)
def nL(n:Nat):1≤(bH n).length∧(bH n).length≤10:=qg 9 n
def Zn{f:cA}{a:aa}(h:dI f=some a):1≤a.length∧a.length≤65546:=by
 unfold dI at h;split at h
 ·split at h
  ·injection h with h;subst h;have:=nL f.N.toNat;omega
  ·cases h
 ·split at h
  ·injection h with h;subst h;have:=nL f.S.length;simp[vV];omega
  ·cases h
def zF:∀{l:List cA} {b:aa},cZ l=some b→l.length≤b.length∧b.length≤65546*l.length
 | [],b,h=>by simp[cZ]at h;subst h;simp
 |f::r,b,h=>by
  simp only[cZ]at h;cases h1:dI f with
  |none=>rw[h1]at h;cases h
  |some a=>
   rw[h1]at h;cases h2:cZ r with
   |none=>rw[h2]at h;cases h
   |some c=>
    rw[h2]at h;simp only[YE,Y5]at h;subst h;have:=Zn h1;have:=zF h2;simp;omega
def encR(l:aa)(o:Option aa):(Int×aa)⊕aa:=match o with|some b=>.inr (l++b)|none=>.inl (1,[])
def Zo{f:cA}{r:List cA}{l:aa}:encR l (cZ (f::r))=(match dI f with|none=>.inl (1,[])|some a=>encR (l++a) (cZ r)):=by
 simp only[cZ];cases dI f with
 |none=>rfl
 |some a=>cases cZ r<;>simp[encR]
def N5(o:List cA)(u:o.length≤1000):∀(r:List cA) (m i:Nat) (l:aa),o.drop i=r→i≤o.length→(∀f∈r,okF f)→r.length<m→l.length+65546*r.length+20≤bI→
 sB FF o m (i:Int) l=some (encR l (cZ r))
 | [],m,i,l,hd,hi,_,hm,z=>by
  obtain⟨m,rfl⟩:∃q,m=q+1:=⟨m-1,by omega⟩
  have:o.length≤i:=List.drop_eq_nil_iff.1 hd;simp only[sB];rw[show decide ((i:Int)<(o.length:Int))=false from Ye (by omega),Y7]
  simp[encR,cZ]
 |f::r,m,i,l,hd,hi,mM,hm,z=>by
  obtain⟨m,rfl⟩:∃q,m=q+1:=⟨m-1,by simp at hm;omega⟩
  have M:i<o.length:=by
   rcases Wo i o.length with h|h
   ·exact h
   ·rw[List.drop_eq_nil_iff.2 h]at hd;cases hd
  have B:o[i]? =some f:=by
   have:=YP (xs:=o) (i:=i) (j:=0);rw[hd]at this;simpa using this.symm
  have C:o.drop (i+1)=r:=by rw[←WX,hd];rfl
  simp only[Yh]at hm z;have H:=λ l z=>N5 o u r m (i+1) l C (by omega) (λ f B=>mM f (Yn _ B)) (by omega) z
  rw[Zo];simp only[sB];rw[show decide ((i:Int)<(o.length:Int))=true from Y2 (by omega),Y4,
   show decide ((0:Int)≤(i:Int))=true from Y2 (by omega),Y4,Yf,B]
  simp only[Y1];have J:IntKind.wrap IntKind.i64 ((i:Int)+1)=((i+1:Nat):Int):=by rw[YF];omega
  rw[J];rcases mM f Yp with ⟨p,hN⟩|p
  ·have e1:(f.Kind==(1:Int))=true:=by rw[p];rfl
   rw[e1,Y4];simp only[Y1];by_cases h0:0≤f.N
   ·have x:dI f=some (bH f.N.toNat):=by unfold dI;rw[if_pos p,if_pos h0]
    rw[Y2 h0,Y4,x];have E:IntKind.wrap IntKind.u64 f.N=((f.N.toNat:Nat):Int):=by rw[VO];omega
    rw[E,Ey f.N.toNat (by omega) l (by omega)]
    simp only[Y1,YG];exact H _ (by have:=nL f.N.toNat;simp;omega)
   ·have x:dI f=none:=by unfold dI;rw[if_pos p,if_neg h0]
    rw[Ye h0,Y7,x];have F:(f.Kind==(2:Int))=false:=by rw[p];rfl
    have A:(f.Kind==(3:Int))=false:=by rw[p];rfl
    rw[F,Y7,A,Y7];simp
  ·have e1:(f.Kind==(1:Int))=false:=by rw[p];rfl
   have F:(f.Kind==(2:Int))=false:=by rw[p];rfl
   have A:(f.Kind==(3:Int))=true:=by rw[p];rfl
   have y:¬f.Kind=1:=by rw[p];decide
   rw[e1,Y7,F,A,Y4];simp only[Y1,Y7];by_cases h0:f.S.length≤65536
   ·have x:dI f=some (bH f.S.length++gZ f.S):=by unfold dI;rw[if_neg y,if_pos h0]
    rw[show decide (((f.S.length:Nat):Int)≤(65536:Int))=true from Y2 (by omega),Y4,x]
    have E:IntKind.wrap IntKind.u64 ((f.S.length:Nat):Int)=((f.S.length:Nat):Int):=by rw[VO];omega
    have hp:=nL f.S.length;rw[E,Ey f.S.length (by omega) l (by omega)]
    simp only[Y1];rw[show decide (List.length (l++bH f.S.length)+List.length f.S≤bI)=true from Y2 (by simp;omega),Y4]
    simp only[Y1,YG];rw[show l++bH f.S.length++List.map (λ(b:UInt8)=>(((UInt8.toNat b):Nat):Int)) f.S=l++(bH f.S.length++gZ f.S) by rw[Yo];rfl]
    exact H _ (by simp[vV];omega)
   ·have x:dI f=none:=by unfold dI;rw[if_neg y,if_neg h0]
    rw[show decide (((f.S.length:Nat):Int)≤(65536:Int))=false from Ye (by omega),Y7,x]
    simp
def E2(i:List cA)(j:∀f∈i,okF f)(o:i.length≤1000):sx FF i=some (match cZ i with|some b=>(0,b)|none=>(1,[])):=by
 unfold sx;rw[show(0:Int)=((0:Nat):Int)from rfl,N5 i o i FF 0 [] (by simp) (by omega) j (by show i.length<4000000;omega) (by simp[bI];omega)]
 cases cZ i<;>simp[encR]
def MG:∀(i:aa) (k y:Nat),i.length≤k→(∀z∈i,128≤z∧z≤255)→y<128→(i≠[]→0<y)→
 ∃v:Nat,eL k v=i++[(y:Int)]∧v<(y+1)*128^i.length∧(0<y→0<v)
 | [],k,y,_,_,hy,_=>by
  refine⟨y,?_,by simp,λ h=>h⟩
  cases k with
  |zero=>simp[eL,WE (show y<256 by omega)]
  |succ k=>simp[eL,hy]
 |z::i,k,y,hk,hz,hy,h0=>by
  obtain⟨k,rfl⟩:∃q,k=q+1:=⟨k-1,by simp at hk;omega⟩
  have j:=h0 (by simp)
  obtain⟨v,h1,h2,p⟩:=MG i k y (by simpa using hk) (λ w o=>hz w (Yn _ o)) hy (λ _=>j)
  have u:=hz z Yp;obtain⟨c,rfl⟩:∃c:Nat,z=((c+128:Nat):Int):=⟨(z-128).toNat,by omega⟩
  have hv:=p j;refine⟨c+128*v,?_,?_,λ _=>by omega⟩
  ·rw[eL,if_neg (by omega),show(c+128*v)% 128=c by omega,show(c+128*v)/128=v by omega,h1];rfl
  ·rw[Yh,VZ,←Nat.mul_assoc];omega
def Good(b:aa)(i:Nat):Prop:=∃(j:aa) (y:Nat) (r:aa),b=j++(y:Int)::r∧i+j.length≤9∧(∀z∈j,128≤z∧z≤255)∧y<128∧(0<i+j.length→0<y)∧(i+j.length=9→y≤1)
def Good.num{b:aa}(h:Good b 0):∃(v:Nat) (r:aa),v<18446744073709551616∧b=bH v++r:=by
 obtain⟨i,y,r,rfl,h1,x,q,o,j⟩:=h;rw[Wf]at h1 o j;obtain⟨v,u,z,_⟩:=MG i 9 y h1 x q (λ h=>o (Vc.2 h));refine⟨v,r,?_,by unfold bH;rw[u];simp⟩
 by_cases p:i.length=9
 ·have:=j p;rw[p]at z;have:(y+1)*128^9≤2*128^9:=YK _ (by omega)
  omega
 ·have A:128^i.length≤128^8:=Nat.pow_le_pow_right (by omega) (by omega)
  have:(y+1)*128^i.length≤128*128^8:=Nat.mul_le_mul (by omega) A
  omega
def Cs:∀(k v:Nat),v<128^(k+1)→∃(i:aa) (y:Nat),eL k v=i++[(y:Int)]∧i.length≤k∧(∀z∈i,128≤z∧z≤255)∧y<128∧(i≠[]→0<v→0<y)∧(0<v→0<y)∧y*128^i.length≤v
 |0,v,h=>⟨[],v,by simp at h;simp[eL,WE (show v<256 by omega)],by simp,by simp,by simpa using h,by simp,λ h=>h,by simp⟩
 |k+1,v,h=>by
  by_cases o:v<128
  ·exact⟨[],v,by simp[eL,o],by simp,by simp,o,by simp,λ h=>h,by simp⟩
  ·obtain⟨i,y,h1,u,q,x,h5,p,h7⟩:=Cs k (v/128) (by rw[VZ]at h;omega)
   refine⟨((v% 128+128:Nat):Int)::i,y,by rw[eL,if_neg o,h1];rfl,by simpa using u,λ z j=>?_,x,λ _ _=>p (by omega),λ _=>p (by omega),?_⟩
   ·rcases Yr.1 j with rfl|j
    ·omega
    ·exact q z j
   ·rw[Yh,VZ,←Nat.mul_assoc];omega
def M5(v:Nat)(h:v<18446744073709551616)(r:aa):Good (bH v++r) 0:=by
 obtain⟨j,y,h1,h2,u,x,q,h6,p⟩:=Cs 9 v (by omega)
 refine⟨j,y,r,by unfold bH;rw[h1];simp,by omega,u,x,λ h=>?_,λ h=>?_⟩
 ·rw[Wf]at h;have i:j≠[]:=Vc.1 h;rcases VW v with o|o
  ·subst o;have:eL 9 0=[0]:=rfl;rw[this]at h1;cases j with
   |nil=>exact absurd rfl i
   |cons z j=>simp at h1
  ·exact q i o
 ·rw[Wf]at h;rw[h]at p;have:(128:Nat)^9=9223372036854775808:=by decide
  rw[this]at p;omega
def UB(b:aa)(H:dw b):∀(k i x m:Nat),i+k=9→k<m→x<18446744073709551616→
 Good (b.drop i) i∨nM FF b m (x:Int) (i:Int)=some (.inl (0,0,21))∨nM FF b m (x:Int) (i:Int)=some (.inr ()):=by
 intro k;induction k with
 |zero=>
  intro i x m O R B;obtain⟨m,rfl⟩:∃q,m=q+1:=⟨m-1,by omega⟩
  rcases Wo i b.length with j|j
  ·obtain⟨y,o,A⟩:=EE H j;rw[uT b m i x y o B A (by omega)]
   by_cases C:(i=9∧1<y)∨(0<i∧y=0)
   ·rw[if_pos C];exact .inr (.inl rfl)
   ·left;exact⟨[],y,b.drop (i+1),by rw[Wv j];rw[Y3 j]at o;injection o with o;rw[o];rfl,by simp;omega,by simp,by omega,λ _=>by omega,λ _=>by omega⟩
  ·exact .inr (.inr (E' b m i x j))
 |succ k ih=>
  intro i x m O R B;obtain⟨m,rfl⟩:∃q,m=q+1:=⟨m-1,by omega⟩
  rcases Wo i b.length with j|j
  ·obtain⟨y,o,A⟩:=EE H j;have p:b.drop i=(y:Int)::b.drop (i+1):=by rw[Wv j];rw[Y3 j]at o;injection o with o;rw[o]
   rw[uT b m i x y o B A (by omega)]
   by_cases C:(i=9∧1<y)∨(0<i∧y=0)
   ·rw[if_pos C];exact .inr (.inl rfl)
   ·rw[if_neg C];by_cases u:y<128
    ·left;exact⟨[],y,b.drop (i+1),p,by simp;omega,by simp,u,λ h=>by simp at h;omega,λ h=>by simp at h;omega⟩
    ·rw[if_neg u];rcases ih (i+1) (acc x y i) m (by omega) (by omega) (ED x y i B)with ⟨F,J,r,Q,g2,U,T,M,V⟩|e|e
     ·left;refine⟨(y:Int)::F,J,r,by rw[p,Q];rfl,by simp;omega,λ z E=>?_,T,λ _=>M (by omega),λ h=>V (by simp at h;omega)⟩
      rcases Yr.1 E with rfl|E
      ·omega
      ·exact U z E
     ·exact .inr (.inl e)
     ·exact .inr (.inr e)
  ·exact .inr (.inr (E' b m i x j))
def ZpX(b:aa)(o:dw b):(∃(v:Nat) (r:aa),v<18446744073709551616∧b=bH v++r∧mG FF b=some ((v:Int),((bH v).length:Int),0))∨(¬Good b 0∧∃e,e≠0∧mG FF b=some (0,0,e)):=by
 by_cases i:Good b 0
 ·obtain⟨v,r,h1,j⟩:=i.num;exact .inl ⟨v,r,h1,j,by rw[j];exact Cm v h1 r⟩
 ·right;refine⟨i,?_⟩;rcases UB b o 9 0 0 FF rfl (by decide) (by decide)with h|e|e
  ·exact absurd h i
  ·refine⟨21,by decide,?_⟩
   unfold mG;simp only[Vp]at e;rw[e];rfl
  ·refine⟨20,by decide,?_⟩
   unfold mG;simp only[Vp]at e;rw[e];rfl
def wi(n:Nat)(h:n<9223372036854775808):IntKind.wrap IntKind.i64 ((n:Nat):Int)=(n:Int):=by rw[YF];omega
def yO(n:Nat)(h:n+1<9223372036854775808):IntKind.wrap IntKind.i64 (((n:Nat):Int)+1)=((n+1:Nat):Int):=by rw[YF];omega
def nf(k:Int)(f:cA):Prop:=f.Kind=k∧((k=1∧0≤f.N∧f.N<9223372036854775808∧f.S=[])∨(k=3∧f.N=0∧f.S.length≤65536))
def j5:aa→List cA→Prop
 | [],[]=>True
 |k::ks,f::fs=>nf k f∧j5 ks fs
 |_,_=>False
def B':∀{ks:aa} {fs:List cA},j5 ks fs→fs.length=ks.length
 | [],[],_=>rfl
 |_::ks,_::fs,h=>by simp[B' h.2]
 | [],_::_,h=>h.elim
 |_::_,[],h=>h.elim
def xD{k:Int}{f:cA}(h:nf k f):(k=1∧dI f=some (bH f.N.toNat)∧f.N.toNat<9223372036854775808)∨(k=3∧dI f=some (bH f.S.length++gZ f.S)∧f.S.length≤65536):=by
 obtain⟨h1,⟨j,i,h4,_⟩|⟨j,_,i⟩⟩:=h
 ·left;refine⟨j,?_,by omega⟩;unfold dI;rw[if_pos (by omega),if_pos i]
 ·right;refine⟨j,?_,i⟩;unfold dI;rw[if_neg (by omega),if_pos i]
def Mp:∀{s t:aj},gZ s=gZ t→s=t
 | [],[],_=>rfl
 | [],_::_,h=>by simp[gZ]at h
 |_::_,[],h=>by simp[gZ]at h
 |a::s,b::t,h=>by
  simp only[gZ,Yy,Vz]at h;obtain⟨h1,i⟩:=h;have h1:a.toNat=b.toNat:=by omega
  rw[UInt8.toNat_inj.1 h1,Mp (s:=s) (t:=t) i]
def EP{v w:Nat}{r t:aa}(o:v<18446744073709551616)(j:w<18446744073709551616)(h:bH v++r=bH w++t):v=w∧r=t:=by
 have h1:=Cm v o r;have i:=Cm w j t;rw[h,i]at h1;simp only[Y5,WV]at h1;have e:v=w:=by omega
 subst e;exact⟨rfl,Vb h⟩
def Ny{k:Int}{f g:cA}{a c r t:aa}(q:nf k f)(u:nf k g)(F:dI f=some a)(B:dI g=some c)(h:a++r=c++t):f=g∧r=t:=by
 rcases xD q with ⟨k1,e1,l1⟩|⟨k1,e1,l1⟩<;>rcases xD u with ⟨k2,i,l2⟩|⟨k2,i,l2⟩
 ·rw[F]at e1;injection e1 with e1;subst e1;rw[B]at i;injection i with i;subst i;obtain⟨h1,x⟩:=EP (by omega) (by omega) h
  refine⟨?_,x⟩;obtain⟨y,⟨_,o,_,C⟩|⟨o,_⟩⟩:=q<;>obtain⟨p,⟨_,j,_,z⟩|⟨j,_⟩⟩:=u
  ·cases f;cases g;simp only at y o C p j z h1;simp only[cA.mk.injEq];exact⟨by omega,by omega,by rw[C,z]⟩
  all_goals omega
 ·omega
 ·omega
 ·rw[F]at e1;injection e1 with e1;subst e1;rw[B]at i;injection i with i;subst i;rw[Yo,Yo]at h;obtain⟨h1,x⟩:=EP (by omega) (by omega) h
  have A:=List.append_inj x (by rw[vV,vV];exact h1)
  have E:=Mp A.1;refine⟨?_,A.2⟩;obtain⟨y,⟨o,_⟩|⟨_,o,_⟩⟩:=q<;>obtain⟨p,⟨j,_⟩|⟨_,j,_⟩⟩:=u
  case inr.inr=>
   cases f;cases g;simp only at y o p j E;simp only[cA.mk.injEq];exact⟨by omega,by omega,E⟩
  all_goals omega
def N6:∀{ks:aa} {fs gs:List cA} {a c r t:aa},j5 ks fs→j5 ks gs→cZ fs=some a→cZ gs=some c→a++r=c++t→fs=gs∧r=t
 | [],[],[],a,c,r,t,_,_,ha,hc,h=>by
  simp[cZ]at ha hc;subst ha;subst hc;exact⟨rfl,by simpa using h⟩
 |k::ks,f::fs,g::gs,a,c,r,t,hf,hg,ha,hc,h=>by
  simp only[cZ]at ha hc;cases h1:dI f with
  |none=>rw[h1]at ha;cases ha
  |some a1=>
   cases h2:dI g with
   |none=>rw[h2]at hc;cases hc
   |some c1=>
    rw[h1]at ha;rw[h2]at hc;cases h3:cZ fs with
    |none=>rw[h3]at ha;cases ha
    |some a2=>
     cases h4:cZ gs with
     |none=>rw[h4]at hc;cases hc
     |some c2=>
      rw[h3]at ha;rw[h4]at hc;simp only[YE,Y5]at ha hc;subst ha;subst hc;rw[Yo,Yo]at h;obtain⟨e1,i⟩:=Ny hf.1 hg.1 h1 h2 h;obtain⟨j,o⟩:=N6 hf.2 hg.2 h3 h4 i;exact⟨by rw[e1,j],o⟩
 | [],[],_::_,_,_,_,_,_,h,_,_,_=>h.elim
 | [],_::_,_,_,_,_,_,h,_,_,_,_=>h.elim
 |_::_,[],_,_,_,_,_,h,_,_,_,_=>h.elim
 |_::_,_::_,[],_,_,_,_,_,h,_,_,_=>h.elim
def Znz(s:aj):cv (gZ s)=s:=by
 induction s with
 |nil=>rfl
 |cons a s ih=>
  simp only[cv,gZ,Yy]at ih⊢;rw[ih];simp
def Kb{l:aa}(h:dw l):ta l=true:=by
 unfold ta;rw[YW];intro y i;have:=h y i;simp only[Yi,YB];omega
def Cw{l:aa}(h:dw l):gZ (cv l)=l:=by
 induction l with
 |nil=>rfl
 |cons a l i=>
  have ha:=h a Yp;have i:=i (λ y j=>h y (Yn _ j));simp only[cv,gZ,Yy]at i⊢;rw[i];congr 1;simp only[VY];omega
def qY(k:Int)(b:aa)(f:cA)(r:aa):Prop:=nf k f∧∃a,dI f=some a∧b=a++r
def ZiV{k:Int}{b:aa}(h:¬Good b 0)(f:cA)(r:aa):¬qY k b f r:=by
 rintro⟨j,a,i,rfl⟩;rcases xD j with ⟨_,e,l⟩|⟨_,e,l⟩
 ·rw[i]at e;injection e with e;subst e;exact h (M5 _ (by omega) r)
 ·rw[i]at e;injection e with e;subst e;rw[Yo]at h;exact h (M5 _ (by omega) _)
def MR{b:aa}{v:Nat}{r:aa}(p:v<18446744073709551616)(j:b=bH v++r):(v<9223372036854775808→qY 1 b (cA.mk 1 (v:Int) []) r)∧(9223372036854775808≤v→∀f t,¬qY 1 b f t):=by
 constructor
 ·intro h;refine⟨⟨rfl,.inl ⟨rfl,by simp only;omega,by simp only;omega,rfl⟩⟩,bH v,?_,j⟩
  unfold dI;rw[if_pos rfl,if_pos (by simp only;omega)];simp
 ·rintro h f t ⟨o,a,q,i⟩;rcases xD o with ⟨_,e,l⟩|⟨e,_⟩
  ·rw[q]at e;injection e with e;subst e;have:=(EP p (by omega) (j.symm.trans i)).1
   omega
  ·omega
def dw.re{a b:aa}(h:dw (a++b)):dw b:=λ y i=>h y (YA.2 (.inr i))
def dw.vp{a:aa}(h:dw a)(n:Nat):dw (a.take n):=λ y i=>h y (YZ i)
def dw.drop2{a:aa}(h:dw a)(n:Nat):dw (a.drop n):=λ y i=>h y (Wq i)
def Jk{b:aa}{n:Nat}{r:aa}(j:dw b)(hn:n<18446744073709551616)(o:b=bH n++r):
 (n≤65536→n≤r.length→qY 3 b (cA.mk 3 0 (cv (r.take n))) (r.drop n))∧(65536<n∨r.length<n→∀f t,¬qY 3 b f t):=by
 have q:dw r:=dw.re (a:=bH n) (o▸j);constructor
 ·intro h1 p;have x:(cv (r.take n)).length=n:=by simp[cv];omega
  refine⟨⟨rfl,.inr ⟨rfl,rfl,by simp only;omega⟩⟩,bH n++r.take n,?_,by rw[o,Yo,V0]⟩
  unfold dI;rw[if_neg (by simp only;decide),if_pos (by simp only;omega)]
  simp only;rw[x,Cw (dw.vp q n)]
 ·rintro h f t ⟨u,a,y,i⟩;rcases xD u with ⟨e,_⟩|⟨_,e,l⟩
  ·omega
  ·rw[y]at e;injection e with e;subst e;rw[Yo]at i;obtain⟨h1,p⟩:=EP hn (by omega) (o.symm.trans i)
   have:=YU List.length p;simp[vV]at this;omega
def Il(v:Nat)(h:v<18446744073709551616):((@Int.fdiv (v:Int) ((2:Int)^(min (Int.toNat (63:Int)) 64))) != (0:Int))=decide (9223372036854775808≤v):=by
 have e:Int.fdiv (v:Int) ((2:Int)^(min (Int.toNat 63) 64))=((v/9223372036854775808:Nat):Int):=by
  show Int.fdiv (v:Int) 9223372036854775808=_;rw[WB _ (by omega)];omega
 rw[e];by_cases i:9223372036854775808≤v
 ·rw[Y2 i];have:((v/9223372036854775808:Nat):Int)≠0:=by omega
  simpa using this
 ·rw[Ye i];have:((v/9223372036854775808:Nat):Int)=0:=by omega
  rw[this];rfl
def Zpv(k:Int)(A:k=1∨k=3)(b:aa)(x:dw b)(hL:b.length≤1073741824):
 (∃f r,qY k b f r∧pw FF k b=some (f,((b.length-r.length:Nat):Int),0))∨((∀f r,¬qY k b f r)∧∃f s e,e≠0∧pw FF k b=some (f,s,e)):=by
 rcases ZpX b x with ⟨v,r,o,i,p⟩|⟨B,e,y,p⟩
 ·have q:b.length=(bH v).length+r.length:=by rw[i];simp
  have hp:=nL v;unfold pw;rcases A with rfl|rfl
  ·simp only[show((1:Int) != (1:Int))=false from rfl,Y7,Y1,p,show((0:Int) != (0:Int))=false from rfl,show((1:Int)==(1:Int))=true from rfl,Y4,Il v o]
   by_cases j:9223372036854775808≤v
   ·rw[Y2 j];simp only[Y4,Y1,Wr];exact .inr ⟨(MR o i).2 j,_,_,21,by decide,rfl⟩
   ·rw[Ye j];simp only[Y7,Y1,YG];refine .inl ⟨_,r,(MR o i).1 (by omega),?_⟩
    rw[wi v (by omega),q,Nat.add_sub_cancel]
  ·simp only[show((3:Int) != (1:Int))=true from rfl,show((3:Int) != (2:Int))=true from rfl,show((3:Int) != (3:Int))=false from rfl,Y7,Y4,Y1,p,show((0:Int) != (0:Int))=false from rfl,
    show((3:Int)==(1:Int))=false from rfl,show((3:Int)==(2:Int))=false from rfl]
   by_cases h1:65536<v
   ·rw[show decide ((65536:Int)<(v:Int))=true from Y2 (by omega)]
    simp only[Y4,Y1,Wr];exact .inr ⟨(Jk x o i).2 (.inl h1),_,_,21,by decide,rfl⟩
   ·rw[show decide ((65536:Int)<(v:Int))=false from Ye (by omega),Y7]
    have e1:IntKind.wrap IntKind.i64 (((b.length:Nat):Int)-(((bH v).length:Nat):Int))=((r.length:Nat):Int):=by rw[YF];omega
    have E:IntKind.wrap IntKind.i64 ((((bH v).length:Nat):Int)+(v:Int))=(((bH v).length+v:Nat):Int):=by rw[YF];omega
    rw[e1,wi v (by omega),E]
    by_cases C:r.length<v
    ·rw[show decide (((r.length:Nat):Int)<(v:Int))=true from Y2 (by omega)]
     simp only[Y4,Y1,Wr];exact .inr ⟨(Jk x o i).2 (.inr C),_,_,20,by decide,rfl⟩
    ·rw[show decide (((r.length:Nat):Int)<(v:Int))=false from Ye (by omega),Y7,Yf,Yf]
     have u:List.drop (bH v).length (List.take ((bH v).length+v) b)=r.take v:=by
      rw[i,Ud,Yk (by omega),U1,List.drop_append,Vq,V7,VK];rfl
     have z:dw (r.take v):=dw.vp (dw.re (a:=bH v) (i▸x)) v;rw[show decide ((0:Int)≤(((bH v).length:Nat):Int))=true from Y2 (by omega),show decide ((0:Int)≤(((bH v).length+v:Nat):Int))=true from Y2 (by omega),
      show decide ((bH v).length≤(bH v).length+v)=true from Y2 (by omega),show decide ((bH v).length+v≤b.length)=true from Y2 (by omega),u,Kb z]
     simp only[Y4,Y1,YG];refine .inl ⟨_,r.drop v,(Jk x o i).1 (by omega) (by omega),?_⟩
     rw[Yw,show b.length-(r.length-v)=(bH v).length+v by omega]
 ·right;refine⟨ZiV B,?_⟩;unfold pw;have e1:(e != (0:Int))=true:=by simpa using y
  rcases A with rfl|rfl
  ·simp only[show((1:Int) != (1:Int))=false from rfl,Y7,Y1,p,e1,Y4]
   exact⟨_,_,e,y,rfl⟩
  ·simp only[show((3:Int) != (1:Int))=true from rfl,show((3:Int) != (2:Int))=true from rfl,show((3:Int) != (3:Int))=false from rfl,Y7,Y4,Y1,p,e1]
   exact⟨_,_,e,y,rfl⟩
def jj(ks:aa)(b:aa)(fs:List cA)(r:aa):Prop:=j5 ks fs∧∃a,cZ fs=some a∧b=a++r
def Zg(b:aa):jj [] b [] b:=⟨trivial,[],rfl,rfl⟩
def Zq8{k:Int}{ks b:aa}{f:cA}{fs:List cA}{t r:aa}(h1:qY k b f t)(p:jj ks t fs r):jj (k::ks) b (f::fs) r:=by
 obtain⟨i,a,q,rfl⟩:=h1;obtain⟨j,c,o,rfl⟩:=p;refine⟨⟨i,j⟩,a++c,?_,(Yo a c r).symm⟩;simp[cZ,q,o]
def Pf{k:Int}{ks b:aa}{gs:List cA}{r:aa}(h:jj (k::ks) b gs r):∃f fs t,gs=f::fs∧qY k b f t∧jj ks t fs r:=by
 obtain⟨hn,a,i,rfl⟩:=h;cases gs with
 |nil=>exact hn.elim
 |cons f fs=>
  simp only[cZ]at i;cases h1:dI f with
  |none=>rw[h1]at i;cases i
  |some a1=>
   rw[h1]at i;cases h2:cZ fs with
   |none=>rw[h2]at i;cases i
   |some a2=>
    rw[h2]at i;simp only[YE,Y5]at i;subst i;exact⟨f,fs,a2++r,rfl,⟨hn.1,a1,h1,Yo a1 a2 r⟩,hn.2,a2,h2,rfl⟩
def Zf{k:Int}{b:aa}{f g:cA}{r t:aa}(h1:qY k b f r)(p:qY k b g t):f=g∧r=t:=by
 obtain⟨i,a,q,e⟩:=h1;obtain⟨j,c,o,u⟩:=p;exact Ny i j q o (e.symm.trans u)
def Xs{k:Int}{b:aa}{f:cA}{r:aa}(h:qY k b f r):b.drop (b.length-r.length)=r∧r.length≤b.length:=by
 obtain⟨_,a,_,rfl⟩:=h;have e:(a++r).length-r.length=a.length:=by simp
 rw[e];simp
def Ci{ks b:aa}{fs gs:List cA}{r t:aa}(h1:jj ks b fs r)(p:jj ks b gs t):fs=gs∧r=t:=by
 obtain⟨i,a,q,e⟩:=h1;obtain⟨j,c,o,u⟩:=p;exact N6 i j q o (e.symm.trans u)
def NZ(o:aa)(H:o.length≤1000):∀(ks b:aa) (m i:Nat) (l:List cA),o.drop i=ks→i+ks.length=o.length→(∀k∈ks,k=1∨k=3)→dw b→b.length≤1073741824→ks.length<m→l.length+ks.length≤1000→
 (∃fs r,jj ks b fs r∧nD FF o m b (i:Int) l=some (.inr (r,l++fs)))∨((∀fs r,¬jj ks b fs r)∧∃e,e≠0∧nD FF o m b (i:Int) l=some (.inl (e,[])))
 | [],b,m,i,l,hd,hi,hk,hb,hL,hm,hl=>by
  obtain⟨m,rfl⟩:∃q,m=q+1:=⟨m-1,by omega⟩
  simp only[Yx]at hi;refine .inl ⟨[],b,Zg b,?_⟩;simp only[nD];rw[show decide ((i:Int)<(o.length:Int))=false from Ye (by omega),Y7]
  simp
 |k::ks,b,m,i,l,hd,hi,hk,hb,hL,hm,hl=>by
  obtain⟨m,rfl⟩:∃q,m=q+1:=⟨m-1,by omega⟩
  simp only[Yh]at hi hm hl;have M:o[i]? =some k:=by
   have:=YP (xs:=o) (i:=i) (j:=0);rw[hd]at this;simpa using this.symm
  have z:o.drop (i+1)=ks:=by rw[←WX,hd];rfl
  simp only[nD];rw[show decide ((i:Int)<(o.length:Int))=true from Y2 (by omega),Y4,show decide ((0:Int)≤(i:Int))=true from Y2 (by omega),Y4,Yf,M]
  simp only[Y1];rcases Zpv k (hk k Yp) b hb hL with ⟨f,r,h1,A⟩|⟨h1,f,s,e,p,A⟩
  ·obtain⟨E,O⟩:=Xs h1;rw[A];simp only[Y1,show((0:Int) != (0:Int))=false from rfl,Y7]
   rw[show decide (l.length+1≤bI)=true from Y2 (by unfold bI;omega),Y4,show decide ((0:Int)≤((b.length-r.length:Nat):Int))=true from Y2 (by omega),Y4,Yf,
    show decide (b.length-r.length≤b.length)=true from Y2 (by omega),Y4,show decide (b.length≤b.length)=true from Y2 (by omega),Y4,E,yO _ (by omega)]
   have y:dw r:=by rw[←E];exact dw.drop2 hb _
   rcases NZ o H ks r m (i+1) (l++[f]) z (by omega) (λ k h=>hk k (Yn _ h)) y (by omega) (by omega) (by simp;omega)with ⟨fs,t,u,C⟩|⟨u,e,p,C⟩
   ·exact .inl ⟨f::fs,t,Zq8 h1 u,by rw[C];simp⟩
   ·refine .inr ⟨λ gs t h=>?_,e,p,C⟩;obtain⟨g,x,J,rfl,B,F⟩:=Pf h
    obtain⟨-,rfl⟩:=Zf h1 B;exact u _ _ F
  ·rw[A];simp only[Y1,show(e != (0:Int))=true by simpa using p,Y4]
   refine .inr ⟨λ gs t h=>?_,e,p,rfl⟩;obtain⟨g,x,J,rfl,B,F⟩:=Pf h
   exact h1 _ _ B
def Fl(ks b:aa)(j:ks.length≤1000)(p:∀k∈ks,k=1∨k=3)(q:dw b)(o:b.length≤1073741824):
 (∃fs,jj ks b fs []∧lL FF ks b=some (0,fs))∨((∀fs,¬jj ks b fs [])∧∃e,e≠0∧lL FF ks b=some (e,[])):=by
 unfold lL;rcases NZ ks j ks b FF 0 [] (by simp) (by simp) p q o (by rw[show FF=1048577+1+(FF-1048578)from by decide];omega) (by simpa using j)with ⟨fs,r,h1,i⟩|⟨h1,e,he,i⟩
 ·rw[show((0:Nat):Int)=0 from rfl]at i
  rw[i];simp only[Y1,YG,YQ];cases r with
  |nil=>exact .inl ⟨fs,h1,by simp⟩
  |cons y r=>
   refine .inr ⟨λ gs h=>?_,21,by decide,?_⟩
   ·obtain⟨-,h⟩:=Ci h1 h;cases h
   ·rw[show decide ((0:Int)<((y::r).length:Int))=true from Y2 (by simp),Y4]
 ·rw[show((0:Nat):Int)=0 from rfl]at i
  rw[i];exact .inr ⟨λ gs h=>h1 _ _ h,e,he,rfl⟩
set_option maxRecDepth 20000
def Oq(k n:Nat):dw (eL k n):=by
 induction k generalizing n with
 |zero=>intro y i;simp[eL]at i;omega
 |succ k ih=>
  unfold eL;split
  ·intro y i;simp at i;omega
  ·intro y i;rcases Yr.1 i with rfl|i
   ·omega
   ·exact ih _ y i
def dw.pq{a b:aa}(j:dw a)(o:dw b):dw (a++b):=λ y i=>by
 rcases YA.1 i with h|h
 ·exact j y h
 ·exact o y h
def zE:∀{l:List cA} {b:aa},cZ l=some b→dw b
 | [],b,h=>by simp[cZ]at h;subst h;intro y i;cases i
 |f::r,b,h=>by
  simp only[cZ]at h;cases h1:dI f with
  |none=>rw[h1]at h;cases h
  |some a=>
   rw[h1]at h;cases h2:cZ r with
   |none=>rw[h2]at h;cases h
   |some c=>
    rw[h2]at h;simp only[YE,Y5]at h;subst h;refine dw.pq ?_ (zE h2);unfold dI at h1;split at h1
    ·split at h1
     ·injection h1 with h1;subst h1;exact Oq _ _
     ·cases h1
    ·split at h1
     ·injection h1 with h1;subst h1;exact dw.pq (Oq _ _) (Mo _)
     ·cases h1
def xH{n:Int}(h:n<9223372036854775808):okF (cA.mk 1 n []):=.inl ⟨rfl,h⟩
def M6(s:aj):okF (cA.mk 3 0 s):=.inr rfl
end Go.T
