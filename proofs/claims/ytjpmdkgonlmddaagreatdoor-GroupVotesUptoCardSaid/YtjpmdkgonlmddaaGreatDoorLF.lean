import Derived.Test.YtjpmdkgonlmddaaGreatDoorLA
import Derived.Test.YtjpmdkgonlmddaaGreatDoorLD
import Derived.Test.YtjpmdkgonlmddaaGreatDoorLE
import Derived.Test.YtjpmdkgonlmddaaGreatDoorLC
set_option linter.unusedVariables false
set_option linter.unusedSimpArgs false
namespace Go.T
open Go Go.Ab
def mL(s:List UInt8):List Int:=List.map (fun(b:UInt8)=>(((UInt8.toNat b):Nat):Int)) s
theorem vV(s:List UInt8):(mL s).length=s.length:=by simp[mL]
theorem GK(s:List UInt8):cX (mL s):=fun y hy=>by
 obtain⟨b,_,rfl⟩:=YM.1 hy
 have:=b.toNat_lt
 omega
def okF(f:bW):Prop:=(f.Kind=1∧f.N<9223372036854775808)∨f.Kind=3
def dD(f:bW):Option (List Int):=
 if f.Kind=1 then(if 0≤f.N then some (bJ f.N.toNat)else none)else(if f.S.length≤65536 then some (bJ f.S.length++mL f.S)else none)
def cV:List bW→Option (List Int)
 | []=>some []
 |f::r=>match dD f with
  |none=>none
  |some a=>(cV r).map (a++ ·)
theorem AX(n:Nat):1≤(bJ n).length∧(bJ n).length≤10:=oZ 9 n
theorem RR{f:bW}{a:List Int}(h:dD f=some a):1≤a.length∧a.length≤65546:=by
 unfold dD at h;split at h
 ·split at h
  ·injection h with h;subst h;have:=AX f.N.toNat;omega
  ·cases h
 ·split at h
  ·injection h with h;subst h;have:=AX f.S.length;simp[vV];omega
  ·cases h
theorem Hr:∀{l:List bW} {b:List Int},cV l=some b→l.length≤b.length∧b.length≤65546*l.length
 | [],b,h=>by simp[cV]at h;subst h;simp
 |f::r,b,h=>by
  simp only[cV]at h
  cases h1:dD f with
  |none=>rw[h1]at h;cases h
  |some a=>
   rw[h1]at h
   cases h2:cV r with
   |none=>rw[h2]at h;cases h
   |some c=>
    rw[h2]at h;simp only[Yo,Y2]at h;subst h
    have:=RR h1
    have:=Hr h2
    simp;omega
def encR(l:List Int)(o:Option (List Int)):(Int×List Int)⊕List Int:=match o with|some b=>.inr (l++b)|none=>.inl (1,[])
theorem RS{f:bW}{r:List bW}{l:List Int}:encR l (cV (f::r))=(match dD f with|none=>.inl (1,[])|some a=>encR (l++a) (cV r)):=by
 simp only[cV]
 cases dD f with
 |none=>rfl
 |some a=>cases cV r<;>simp[encR]
theorem Ly(list:List bW)(Aj:list.length≤1000):∀(r:List bW) (m i:Nat) (l:List Int),list.drop i=r→i≤list.length→(∀f,f∈r→okF f)→r.length<m→l.length+65546*r.length+20≤bm→
 qT FF list m (i:Int) l=some (encR l (cV r))
 | [],m,i,l,hd,hi,_,hm,hl=>by
  obtain⟨m,rfl⟩:∃q,m=q+1:=⟨m-1,by omega⟩
  have:list.length≤i:=List.drop_eq_nil_iff.1 hd
  simp only[qT]
  rw[show decide ((i:Int)<(list.length:Int))=false from Ym (by omega),Y8]
  simp[encR,cV]
 |f::r,m,i,l,hd,hi,hok,hm,hl=>by
  obtain⟨m,rfl⟩:∃q,m=q+1:=⟨m-1,by simp at hm;omega⟩
  have hil:i<list.length:=by
   rcases YY i list.length with h|h
   ·exact h
   ·rw[List.drop_eq_nil_iff.2 h]at hd;cases hd
  have hf:list[i]? =some f:=by
   have:=YR (xs:=list) (i:=i) (j:=0)
   rw[hd]at this;simpa using this.symm
  have hd':list.drop (i+1)=r:=by rw[←Vg,hd];rfl
  simp only[Ye]at hm hl
  have ih:=fun l hl=>Ly list Aj r m (i+1) l hd' (by omega) (fun f hf=>hok f (Yk _ hf)) (by omega) hl
  rw[RS];simp only[qT]
  rw[show decide ((i:Int)<(list.length:Int))=true from Y4 (by omega),Y5,
   show decide ((0:Int)≤(i:Int))=true from Y4 (by omega),Y5,Int.toNat_natCast,hf]
  simp only[Y1]
  have hw:IntKind.wrap IntKind.i64 ((i:Int)+1)=((i+1:Nat):Int):=by rw[Yz];omega
  rw[hw]
  rcases hok f Yl with ⟨hk,hN⟩|hk
  ·have e1:(f.Kind==(1:Int))=true:=by rw[hk];rfl
   rw[e1,Y5];simp only[Y1]
   by_cases h0:0≤f.N
   ·have e2:dD f=some (bJ f.N.toNat):=by unfold dD;rw[if_pos hk,if_pos h0]
    rw[Y4 h0,Y5,e2]
    have e3:IntKind.wrap IntKind.u64 f.N=((f.N.toNat:Nat):Int):=by rw[V3];omega
    rw[e3,CX f.N.toNat (by omega) l (by omega)]
    simp only[Y1,Sum.elim_inr]
    exact ih _ (by have:=AX f.N.toNat;simp;omega)
   ·have e2:dD f=none:=by unfold dD;rw[if_pos hk,if_neg h0]
    rw[Ym h0,Y8,e2]
    have e4:(f.Kind==(2:Int))=false:=by rw[hk];rfl
    have e5:(f.Kind==(3:Int))=false:=by rw[hk];rfl
    rw[e4,Y8,e5,Y8];simp
  ·have e1:(f.Kind==(1:Int))=false:=by rw[hk];rfl
   have e4:(f.Kind==(2:Int))=false:=by rw[hk];rfl
   have e5:(f.Kind==(3:Int))=true:=by rw[hk];rfl
   have hk1:¬f.Kind=1:=by rw[hk];decide
   rw[e1,Y8,e4,e5,Y5];simp only[Y1,Y8]
   by_cases h0:f.S.length≤65536
   ·have e2:dD f=some (bJ f.S.length++mL f.S):=by unfold dD;rw[if_neg hk1,if_pos h0]
    rw[show decide (((f.S.length:Nat):Int)≤(65536:Int))=true from Y4 (by omega),Y5,e2]
    have e3:IntKind.wrap IntKind.u64 ((f.S.length:Nat):Int)=((f.S.length:Nat):Int):=by rw[V3];omega
    have hp:=AX f.S.length
    rw[e3,CX f.S.length (by omega) l (by omega)]
    simp only[Y1]
    rw[show decide (List.length (l++bJ f.S.length)+List.length f.S≤bm)=true from Y4 (by simp;omega),Y5]
    simp only[Y1,Sum.elim_inr]
    rw[show l++bJ f.S.length++List.map (fun(b:UInt8)=>(((UInt8.toNat b):Nat):Int)) f.S=l++(bJ f.S.length++mL f.S) by rw[Yq];rfl]
    exact ih _ (by simp[vV];omega)
   ·have e2:dD f=none:=by unfold dD;rw[if_neg hk1,if_neg h0]
    rw[show decide (((f.S.length:Nat):Int)≤(65536:Int))=false from Ym (by omega),Y8,e2]
    simp
theorem Dx(list:List bW)(hok:∀f,f∈list→okF f)(hl:list.length≤1000):rM FF list=some (match cV list with|some b=>(0,b)|none=>(1,[])):=by
 unfold rM
 rw[show(0:Int)=((0:Nat):Int)from rfl,Ly list hl list FF 0 [] (by simp) (by omega) hok (by show list.length<4000000;omega) (by simp[bm];omega)]
 cases cV list<;>simp[encR]
theorem J':∀(hi:List Int) (k y:Nat),hi.length≤k→(∀z,z∈hi→128≤z∧z≤255)→y<128→(hi≠[]→0<y)→
 ∃v:Nat,ef k v=hi++[(y:Int)]∧v<(y+1)*128^hi.length∧(0<y→0<v)
 | [],k,y,_,_,hy,_=>by
  refine⟨y,?_,by simp,fun h=>h⟩
  cases k with
  |zero=>simp[ef,Wf (show y<256 by omega)]
  |succ k=>simp[ef,hy]
 |z::hi,k,y,hk,hz,hy,h0=>by
  obtain⟨k,rfl⟩:∃q,k=q+1:=⟨k-1,by simp at hk;omega⟩
  have CO:=h0 (by simp)
  obtain⟨v,h1,h2,h3⟩:=J' hi k y (by simpa using hk) (fun w hw=>hz w (Yk _ hw)) hy (fun _=>CO)
  have hz0:=hz z Yl
  obtain⟨c,rfl⟩:∃c:Nat,z=((c+128:Nat):Int):=⟨(z-128).toNat,by omega⟩
  have hv:=h3 CO
  refine⟨c+128*v,?_,?_,fun _=>by omega⟩
  ·rw[ef,if_neg (by omega),show(c+128*v)% 128=c by omega,show(c+128*v)/128=v by omega,h1];rfl
  ·rw[Ye,Nat.pow_succ,←Nat.mul_assoc]
   omega
def Good(b:List Int)(i:Nat):Prop:=∃(hi:List Int) (y:Nat) (r:List Int),b=hi++(y:Int)::r∧i+hi.length≤9∧(∀z,z∈hi→128≤z∧z≤255)∧y<128∧(0<i+hi.length→0<y)∧(i+hi.length=9→y≤1)
theorem Good.num{b:List Int}(h:Good b 0):∃(v:Nat) (r:List Int),v<18446744073709551616∧b=bJ v++r:=by
 obtain⟨hi,y,r,rfl,h1,h2,h3,h4,h5⟩:=h
 rw[YS]at h1 h4 h5
 obtain⟨v,g1,g2,_⟩:=J' hi 9 y h1 h2 h3 (fun h=>h4 (WR.2 h))
 refine⟨v,r,?_,by unfold bJ;rw[g1];simp⟩
 by_cases h9:hi.length=9
 ·have:=h5 h9
  rw[h9]at g2
  have:(y+1)*128^9≤2*128^9:=Yr _ (by omega)
  omega
 ·have h8:128^hi.length≤128^8:=Nat.pow_le_pow_right (by omega) (by omega)
  have:(y+1)*128^hi.length≤128*128^8:=Nat.mul_le_mul (by omega) h8
  omega
theorem LO:∀(k v:Nat),v<128^(k+1)→∃(hi:List Int) (y:Nat),ef k v=hi++[(y:Int)]∧hi.length≤k∧(∀z,z∈hi→128≤z∧z≤255)∧y<128∧(hi≠[]→0<v→0<y)∧(0<v→0<y)∧y*128^hi.length≤v
 |0,v,h=>⟨[],v,by simp at h;simp[ef,Wf (show v<256 by omega)],by simp,by simp,by simpa using h,by simp,fun h=>h,by simp⟩
 |k+1,v,h=>by
  by_cases hv:v<128
  ·exact⟨[],v,by simp[ef,hv],by simp,by simp,hv,by simp,fun h=>h,by simp⟩
  ·obtain⟨hi,y,h1,h2,h3,h4,h5,h6,h7⟩:=LO k (v/128) (by rw[Nat.pow_succ]at h;omega)
   refine⟨((v% 128+128:Nat):Int)::hi,y,by rw[ef,if_neg hv,h1];rfl,by simpa using h2,fun z hz=>?_,h4,fun _ _=>h6 (by omega),fun _=>h6 (by omega),?_⟩
   ·rcases Yh.1 hz with rfl|hz
    ·omega
    ·exact h3 z hz
   ·rw[Ye,Nat.pow_succ,←Nat.mul_assoc]
    omega
theorem KV(v:Nat)(h:v<18446744073709551616)(r:List Int):Good (bJ v++r) 0:=by
 obtain⟨hi,y,h1,h2,h3,h4,h5,h6,h7⟩:=LO 9 v (by omega)
 refine⟨hi,y,r,by unfold bJ;rw[h1];simp,by omega,h3,h4,fun h=>?_,fun h=>?_⟩
 ·rw[YS]at h
  have hne:hi≠[]:=WR.1 h
  rcases Vc v with hv|hv
  ·subst hv
   have:ef 9 0=[0]:=rfl
   rw[this]at h1
   cases hi with
   |nil=>exact absurd rfl hne
   |cons z hi=>simp at h1
  ·exact h5 hne hv
 ·rw[YS]at h
  rw[h]at h7
  have:(128:Nat)^9=9223372036854775808:=by decide
  rw[this]at h7;omega
theorem Qh(b:List Int)(hb:cX b):∀(k i x m:Nat),i+k=9→k<m→x<18446744073709551616→
 Good (b.drop i) i∨mO FF b m (x:Int) (i:Int)=some (.inl (0,0,21))∨mO FF b m (x:Int) (i:Int)=some (.inr ()):=by
 intro k
 induction k with
 |zero=>
  intro i x m hi hm hx
  obtain⟨m,rfl⟩:∃q,m=q+1:=⟨m-1,by omega⟩
  rcases YY i b.length with hl|hl
  ·obtain⟨y,hy,hy2⟩:=Db hb hl
   rw[th b m i x y hy hx hy2 (by omega)]
   by_cases hc:(i=9∧1<y)∨(0<i∧y=0)
   ·rw[if_pos hc];exact .inr (.inl rfl)
   ·left
    exact⟨[],y,b.drop (i+1),by rw[W7 hl];rw[Y3 hl]at hy;injection hy with hy;rw[hy];rfl,by simp;omega,by simp,by omega,fun _=>by omega,fun _=>by omega⟩
  ·exact .inr (.inr (Du b m i x hl))
 |succ k ih=>
  intro i x m hi hm hx
  obtain⟨m,rfl⟩:∃q,m=q+1:=⟨m-1,by omega⟩
  rcases YY i b.length with hl|hl
  ·obtain⟨y,hy,hy2⟩:=Db hb hl
   have ub:b.drop i=(y:Int)::b.drop (i+1):=by rw[W7 hl];rw[Y3 hl]at hy;injection hy with hy;rw[hy]
   rw[th b m i x y hy hx hy2 (by omega)]
   by_cases hc:(i=9∧1<y)∨(0<i∧y=0)
   ·rw[if_pos hc];exact .inr (.inl rfl)
   ·rw[if_neg hc]
    by_cases fJ:y<128
    ·left
     exact⟨[],y,b.drop (i+1),ub,by simp;omega,by simp,fJ,fun h=>by simp at h;omega,fun h=>by simp at h;omega⟩
    ·rw[if_neg fJ]
     rcases ih (i+1) (acc x y i) m (by omega) (by omega) (C6 x y i hx)with ⟨hi',y',r,g1,g2,g3,g4,g5,g6⟩|e|e
     ·left
      refine⟨(y:Int)::hi',y',r,by rw[ub,g1];rfl,by simp;omega,fun z hz=>?_,g4,fun _=>g5 (by omega),fun h=>g6 (by simp at h;omega)⟩
      rcases Yh.1 hz with rfl|hz
      ·omega
      ·exact g3 z hz
     ·exact .inr (.inl e)
     ·exact .inr (.inr e)
  ·exact .inr (.inr (Du b m i x hl))
theorem Uc(b:List Int)(hb:cX b):(∃(v:Nat) (r:List Int),v<18446744073709551616∧b=bJ v++r∧lM FF b=some ((v:Int),((bJ v).length:Int),0))∨(¬Good b 0∧∃e,e≠0∧lM FF b=some (0,0,e)):=by
 by_cases hg:Good b 0
 ·obtain⟨v,r,h1,h2⟩:=hg.num
  exact .inl ⟨v,r,h1,h2,by rw[h2];exact A4 v h1 r⟩
 ·right
  refine⟨hg,?_⟩
  rcases Qh b hb 9 0 0 FF rfl (by decide) (by decide)with h|e|e
  ·exact absurd h hg
  ·refine⟨21,by decide,?_⟩
   unfold lM;simp only[Int.natCast_zero]at e;rw[e];rfl
  ·refine⟨20,by decide,?_⟩
   unfold lM;simp only[Int.natCast_zero]at e;rw[e];rfl
theorem wi(n:Nat)(h:n<9223372036854775808):IntKind.wrap IntKind.i64 ((n:Nat):Int)=(n:Int):=by rw[Yz];omega
theorem NA(n:Nat)(h:n+1<9223372036854775808):IntKind.wrap IntKind.i64 (((n:Nat):Int)+1)=((n+1:Nat):Int):=by rw[Yz];omega
def nf(k:Int)(f:bW):Prop:=f.Kind=k∧((k=1∧0≤f.N∧f.N<9223372036854775808∧f.S=[])∨(k=3∧f.N=0∧f.S.length≤65536))
def oI:List Int→List bW→Prop
 | [],[]=>True
 |k::ks,f::fs=>nf k f∧oI ks fs
 |_,_=>False
theorem vX:∀{ks:List Int} {fs:List bW},oI ks fs→fs.length=ks.length
 | [],[],_=>rfl
 |_::ks,_::fs,h=>by simp[vX h.2]
 | [],_::_,h=>h.elim
 |_::_,[],h=>h.elim
theorem xB{k:Int}{f:bW}(h:nf k f):(k=1∧dD f=some (bJ f.N.toNat)∧f.N.toNat<9223372036854775808)∨(k=3∧dD f=some (bJ f.S.length++mL f.S)∧f.S.length≤65536):=by
 obtain⟨h1,⟨h2,h3,h4,_⟩|⟨h2,_,h3⟩⟩:=h
 ·left;refine⟨h2,?_,by omega⟩;unfold dD;rw[if_pos (by omega),if_pos h3]
 ·right;refine⟨h2,?_,h3⟩;unfold dD;rw[if_neg (by omega),if_pos h3]
theorem JY:∀{s t:List UInt8},mL s=mL t→s=t
 | [],[],_=>rfl
 | [],_::_,h=>by simp[mL]at h
 |_::_,[],h=>by simp[mL]at h
 |a::s,b::t,h=>by
  simp only[mL,Yp,List.cons.injEq]at h
  obtain⟨h1,h2⟩:=h
  have h1:a.toNat=b.toNat:=by omega
  rw[UInt8.toNat_inj.1 h1,JY (s:=s) (t:=t) h2]
theorem C8{v w:Nat}{r t:List Int}(hv:v<18446744073709551616)(hw:w<18446744073709551616)(h:bJ v++r=bJ w++t):v=w∧r=t:=by
 have h1:=A4 v hv r
 have h2:=A4 w hw t
 rw[h,h2]at h1;simp only[Y2,Wv]at h1
 have e:v=w:=by omega
 subst e;exact⟨rfl,WG h⟩
theorem KG{k:Int}{f g:bW}{a c r t:List Int}(hf:nf k f)(hg:nf k g)(ha:dD f=some a)(hc:dD g=some c)(h:a++r=c++t):f=g∧r=t:=by
 rcases xB hf with ⟨k1,e1,l1⟩|⟨k1,e1,l1⟩<;>rcases xB hg with ⟨k2,e2,l2⟩|⟨k2,e2,l2⟩
 ·rw[ha]at e1;injection e1 with e1;subst e1
  rw[hc]at e2;injection e2 with e2;subst e2
  obtain⟨h1,h2⟩:=C8 (by omega) (by omega) h
  refine⟨?_,h2⟩
  obtain⟨q1,⟨_,q2,_,q3⟩|⟨q2,_⟩⟩:=hf<;>obtain⟨q4,⟨_,q5,_,q6⟩|⟨q5,_⟩⟩:=hg
  ·cases f;cases g
   simp only at q1 q2 q3 q4 q5 q6 h1;simp only[bW.mk.injEq]
   exact⟨by omega,by omega,by rw[q3,q6]⟩
  all_goals omega
 ·omega
 ·omega
 ·rw[ha]at e1;injection e1 with e1;subst e1
  rw[hc]at e2;injection e2 with e2;subst e2
  rw[Yq,Yq]at h
  obtain⟨h1,h2⟩:=C8 (by omega) (by omega) h
  have h3:=List.append_inj h2 (by rw[vV,vV];exact h1)
  have h4:=JY h3.1
  refine⟨?_,h3.2⟩
  obtain⟨q1,⟨q2,_⟩|⟨_,q2,_⟩⟩:=hf<;>obtain⟨q4,⟨q5,_⟩|⟨_,q5,_⟩⟩:=hg
  case inr.inr=>
   cases f;cases g;simp only at q1 q2 q4 q5 h4;simp only[bW.mk.injEq]
   exact⟨by omega,by omega,h4⟩
  all_goals omega
theorem K7:∀{ks:List Int} {fs gs:List bW} {a c r t:List Int},oI ks fs→oI ks gs→cV fs=some a→cV gs=some c→a++r=c++t→fs=gs∧r=t
 | [],[],[],a,c,r,t,_,_,ha,hc,h=>by
  simp[cV]at ha hc;subst ha;subst hc;exact⟨rfl,by simpa using h⟩
 |k::ks,f::fs,g::gs,a,c,r,t,hf,hg,ha,hc,h=>by
  simp only[cV]at ha hc
  cases h1:dD f with
  |none=>rw[h1]at ha;cases ha
  |some a1=>
   cases h2:dD g with
   |none=>rw[h2]at hc;cases hc
   |some c1=>
    rw[h1]at ha;rw[h2]at hc
    cases h3:cV fs with
    |none=>rw[h3]at ha;cases ha
    |some a2=>
     cases h4:cV gs with
     |none=>rw[h4]at hc;cases hc
     |some c2=>
      rw[h3]at ha;rw[h4]at hc;simp only[Yo,Y2]at ha hc;subst ha;subst hc;rw[Yq,Yq]at h
      obtain⟨e1,e2⟩:=KG hf.1 hg.1 h1 h2 h
      obtain⟨e3,e4⟩:=K7 hf.2 hg.2 h3 h4 e2
      exact⟨by rw[e1,e3],e4⟩
 | [],[],_::_,_,_,_,_,_,h,_,_,_=>h.elim
 | [],_::_,_,_,_,_,_,h,_,_,_,_=>h.elim
 |_::_,[],_,_,_,_,_,h,_,_,_,_=>h.elim
 |_::_,_::_,[],_,_,_,_,_,h,_,_,_=>h.elim
theorem HQ{l:List Int}(h:cX l):rH l=true:=by
 unfold rH;rw[YG];intro y hy
 have:=h y hy
 simp only[Y9,Yx];omega
theorem Uf{l:List Int}(h:cX l):mL (dQ l)=l:=by
 induction l with
 |nil=>rfl
 |cons a l ih=>
  have ha:=h a Yl
  have ih:=ih (fun y hy=>h y (Yk _ hy))
  simp only[dQ,mL,Yp]at ih⊢;rw[ih];congr 1;simp only[UInt8.toNat_ofNat'];omega
def pK(k:Int)(b:List Int)(f:bW)(r:List Int):Prop:=nf k f∧∃a,dD f=some a∧b=a++r
theorem VB{k:Int}{b:List Int}(h:¬Good b 0)(f:bW)(r:List Int):¬pK k b f r:=by
 rintro⟨hf,a,ha,rfl⟩
 rcases xB hf with ⟨_,e,l⟩|⟨_,e,l⟩
 ·rw[ha]at e;injection e with e;subst e
  exact h (KV _ (by omega) r)
 ·rw[ha]at e;injection e with e;subst e
  rw[Yq]at h
  exact h (KV _ (by omega) _)
theorem Ki{b:List Int}{v:Nat}{r:List Int}(hv:v<18446744073709551616)(hb:b=bJ v++r):(v<9223372036854775808→pK 1 b (bW.mk 1 (v:Int) []) r)∧(9223372036854775808≤v→∀f t,¬pK 1 b f t):=by
 constructor
 ·intro h
  refine⟨⟨rfl,.inl ⟨rfl,by simp only;omega,by simp only;omega,rfl⟩⟩,bJ v,?_,hb⟩
  unfold dD;rw[if_pos rfl,if_pos (by simp only;omega)];simp
 ·rintro h f t ⟨hf,a,ha,hb2⟩
  rcases xB hf with ⟨_,e,l⟩|⟨e,_⟩
  ·rw[ha]at e;injection e with e;subst e
   have:=(C8 hv (by omega) (hb.symm.trans hb2)).1
   omega
  ·omega
theorem cX.pO{a b:List Int}(h:cX (a++b)):cX b:=fun y hy=>h y (Yw.2 (.inr hy))
theorem cX.tA{a:List Int}(h:cX a)(n:Nat):cX (a.take n):=fun y hy=>h y (YN hy)
theorem cX.drop2{a:List Int}(h:cX a)(n:Nat):cX (a.drop n):=fun y hy=>h y (Wm hy)
theorem Hc{b:List Int}{n:Nat}{r:List Int}(FQ:cX b)(hn:n<18446744073709551616)(hb:b=bJ n++r):
 (n≤65536→n≤r.length→pK 3 b (bW.mk 3 0 (dQ (r.take n))) (r.drop n))∧(65536<n∨r.length<n→∀f t,¬pK 3 b f t):=by
 have hr:cX r:=cX.pO (a:=bJ n) (hb▸FQ)
 constructor
 ·intro h1 h2
  have hl:(dQ (r.take n)).length=n:=by simp[dQ];omega
  refine⟨⟨rfl,.inr ⟨rfl,rfl,by simp only;omega⟩⟩,bJ n++r.take n,?_,by rw[hb,Yq,List.take_append_drop]⟩
  unfold dD;rw[if_neg (by simp only;decide),if_pos (by simp only;omega)]
  simp only;rw[hl,Uf (cX.tA hr n)]
 ·rintro h f t ⟨hf,a,ha,hb2⟩
  rcases xB hf with ⟨e,_⟩|⟨_,e,l⟩
  ·omega
  ·rw[ha]at e;injection e with e;subst e
   rw[Yq]at hb2
   obtain⟨h1,h2⟩:=C8 hn (by omega) (hb.symm.trans hb2)
   have:=YF List.length h2
   simp[vV]at this;omega
theorem Ga(v:Nat)(h:v<18446744073709551616):((@Int.fdiv (v:Int) ((2:Int)^(min (Int.toNat (63:Int)) 64))) != (0:Int))=decide (9223372036854775808≤v):=by
 have e:Int.fdiv (v:Int) ((2:Int)^(min (Int.toNat 63) 64))=((v/9223372036854775808:Nat):Int):=by
  show Int.fdiv (v:Int) 9223372036854775808=_
  rw[Wd _ (by omega)];omega
 rw[e]
 by_cases hv:9223372036854775808≤v
 ·rw[Y4 hv]
  have:((v/9223372036854775808:Nat):Int)≠0:=by omega
  simpa using this
 ·rw[Ym hv]
  have:((v/9223372036854775808:Nat):Int)=0:=by omega
  rw[this];rfl
theorem Tf(k:Int)(hk:k=1∨k=3)(b:List Int)(hb:cX b)(hL:b.length≤1073741824):
 (∃f r,pK k b f r∧oh FF k b=some (f,((b.length-r.length:Nat):Int),0))∨((∀f r,¬pK k b f r)∧∃f s e,e≠0∧oh FF k b=some (f,s,e)):=by
 rcases Uc b hb with ⟨v,r,hv,kX,ht⟩|⟨hg,e,he,ht⟩
 ·have hlen:b.length=(bJ v).length+r.length:=by rw[kX];simp
  have hp:=AX v
  unfold oh
  rcases hk with rfl|rfl
  ·simp only[show((1:Int) != (1:Int))=false from rfl,Y8,Y1,ht,show((0:Int) != (0:Int))=false from rfl,show((1:Int)==(1:Int))=true from rfl,Y5,Ga v hv]
   by_cases F5:9223372036854775808≤v
   ·rw[Y4 F5]
    simp only[Y5,Y1,Sum.elim_inl]
    exact .inr ⟨(Ki hv kX).2 F5,_,_,21,by decide,rfl⟩
   ·rw[Ym F5]
    simp only[Y8,Y1,Sum.elim_inr]
    refine .inl ⟨_,r,(Ki hv kX).1 (by omega),?_⟩
    rw[wi v (by omega),hlen,Nat.add_sub_cancel]
  ·simp only[show((3:Int) != (1:Int))=true from rfl,show((3:Int) != (2:Int))=true from rfl,show((3:Int) != (3:Int))=false from rfl,Y8,Y5,Y1,ht,show((0:Int) != (0:Int))=false from rfl,
    show((3:Int)==(1:Int))=false from rfl,show((3:Int)==(2:Int))=false from rfl]
   by_cases h1:65536<v
   ·rw[show decide ((65536:Int)<(v:Int))=true from Y4 (by omega)]
    simp only[Y5,Y1,Sum.elim_inl]
    exact .inr ⟨(Hc hb hv kX).2 (.inl h1),_,_,21,by decide,rfl⟩
   ·rw[show decide ((65536:Int)<(v:Int))=false from Ym (by omega),Y8]
    have e1:IntKind.wrap IntKind.i64 (((b.length:Nat):Int)-(((bJ v).length:Nat):Int))=((r.length:Nat):Int):=by rw[Yz];omega
    have e2:IntKind.wrap IntKind.i64 ((((bJ v).length:Nat):Int)+(v:Int))=(((bJ v).length+v:Nat):Int):=by rw[Yz];omega
    rw[e1,wi v (by omega),e2]
    by_cases h2:r.length<v
    ·rw[show decide (((r.length:Nat):Int)<(v:Int))=true from Y4 (by omega)]
     simp only[Y5,Y1,Sum.elim_inl]
     exact .inr ⟨(Hc hb hv kX).2 (.inr h2),_,_,20,by decide,rfl⟩
    ·rw[show decide (((r.length:Nat):Int)<(v:Int))=false from Ym (by omega),Y8,Int.toNat_natCast,Int.toNat_natCast]
     have hcut:List.drop (bJ v).length (List.take ((bJ v).length+v) b)=r.take v:=by
      rw[kX,List.take_append,YV (by omega),Vh,List.drop_append,List.drop_length,WN,Vf];rfl
     have vk:cX (r.take v):=cX.tA (cX.pO (a:=bJ v) (kX▸hb)) v
     rw[show decide ((0:Int)≤(((bJ v).length:Nat):Int))=true from Y4 (by omega),show decide ((0:Int)≤(((bJ v).length+v:Nat):Int))=true from Y4 (by omega),
      show decide ((bJ v).length≤(bJ v).length+v)=true from Y4 (by omega),show decide ((bJ v).length+v≤b.length)=true from Y4 (by omega),hcut,HQ vk]
     simp only[Y5,Y1,Sum.elim_inr]
     refine .inl ⟨_,r.drop v,(Hc hb hv kX).1 (by omega) (by omega),?_⟩
     rw[YH,show b.length-(r.length-v)=(bJ v).length+v by omega]
 ·right
  refine⟨VB hg,?_⟩
  unfold oh
  have e1:(e != (0:Int))=true:=by simpa using he
  rcases hk with rfl|rfl
  ·simp only[show((1:Int) != (1:Int))=false from rfl,Y8,Y1,ht,e1,Y5]
   exact⟨_,_,e,he,rfl⟩
  ·simp only[show((3:Int) != (1:Int))=true from rfl,show((3:Int) != (2:Int))=true from rfl,show((3:Int) != (3:Int))=false from rfl,Y8,Y5,Y1,ht,e1]
   exact⟨_,_,e,he,rfl⟩
def jB(ks:List Int)(b:List Int)(fs:List bW)(r:List Int):Prop:=oI ks fs∧∃a,cV fs=some a∧b=a++r
theorem Q5(b:List Int):jB [] b [] b:=⟨trivial,[],rfl,rfl⟩
theorem S8{k:Int}{ks b:List Int}{f:bW}{fs:List bW}{t r:List Int}(h1:pK k b f t)(h2:jB ks t fs r):jB (k::ks) b (f::fs) r:=by
 obtain⟨hf,a,ha,rfl⟩:=h1
 obtain⟨hg,c,hc,rfl⟩:=h2
 refine⟨⟨hf,hg⟩,a++c,?_,(Yq a c r).symm⟩
 simp[cV,ha,hc]
theorem LW{k:Int}{ks b:List Int}{gs:List bW}{r:List Int}(h:jB (k::ks) b gs r):∃f fs t,gs=f::fs∧pK k b f t∧jB ks t fs r:=by
 obtain⟨hn,a,ha,rfl⟩:=h
 cases gs with
 |nil=>exact hn.elim
 |cons f fs=>
  simp only[cV]at ha
  cases h1:dD f with
  |none=>rw[h1]at ha;cases ha
  |some a1=>
   rw[h1]at ha
   cases h2:cV fs with
   |none=>rw[h2]at ha;cases ha
   |some a2=>
    rw[h2]at ha;simp only[Yo,Y2]at ha;subst ha;exact⟨f,fs,a2++r,rfl,⟨hn.1,a1,h1,Yq a1 a2 r⟩,hn.2,a2,h2,rfl⟩
theorem Q4{k:Int}{b:List Int}{f g:bW}{r t:List Int}(h1:pK k b f r)(h2:pK k b g t):f=g∧r=t:=by
 obtain⟨hf,a,ha,e⟩:=h1
 obtain⟨hg,c,hc,e2⟩:=h2
 exact KG hf hg ha hc (e.symm.trans e2)
theorem QD{k:Int}{b:List Int}{f:bW}{r:List Int}(h:pK k b f r):b.drop (b.length-r.length)=r∧r.length≤b.length:=by
 obtain⟨_,a,_,rfl⟩:=h
 have e:(a++r).length-r.length=a.length:=by simp
 rw[e];simp
theorem K9{ks b:List Int}{fs gs:List bW}{r t:List Int}(h1:jB ks b fs r)(h2:jB ks b gs t):fs=gs∧r=t:=by
 obtain⟨hf,a,ha,e⟩:=h1
 obtain⟨hg,c,hc,e2⟩:=h2
 exact K7 hf hg ha hc (e.symm.trans e2)
theorem Lu(kinds:List Int)(hK:kinds.length≤1000):∀(ks b:List Int) (m i:Nat) (l:List bW),kinds.drop i=ks→i+ks.length=kinds.length→(∀k,k∈ks→k=1∨k=3)→cX b→b.length≤1073741824→ks.length<m→l.length+ks.length≤1000→
 (∃fs r,jB ks b fs r∧mG FF kinds m b (i:Int) l=some (.inr (r,l++fs)))∨((∀fs r,¬jB ks b fs r)∧∃e,e≠0∧mG FF kinds m b (i:Int) l=some (.inl (e,[])))
 | [],b,m,i,l,hd,hi,hk,hb,hL,hm,hl=>by
  obtain⟨m,rfl⟩:∃q,m=q+1:=⟨m-1,by omega⟩
  simp only[YB]at hi
  refine .inl ⟨[],b,Q5 b,?_⟩
  simp only[mG]
  rw[show decide ((i:Int)<(kinds.length:Int))=false from Ym (by omega),Y8]
  simp
 |k::ks,b,m,i,l,hd,hi,hk,hb,hL,hm,hl=>by
  obtain⟨m,rfl⟩:∃q,m=q+1:=⟨m-1,by omega⟩
  simp only[Ye]at hi hm hl
  have hf:kinds[i]? =some k:=by
   have:=YR (xs:=kinds) (i:=i) (j:=0)
   rw[hd]at this;simpa using this.symm
  have hd':kinds.drop (i+1)=ks:=by rw[←Vg,hd];rfl
  simp only[mG]
  rw[show decide ((i:Int)<(kinds.length:Int))=true from Y4 (by omega),Y5,show decide ((0:Int)≤(i:Int))=true from Y4 (by omega),Y5,Int.toNat_natCast,hf]
  simp only[Y1]
  rcases Tf k (hk k Yl) b hb hL with ⟨f,r,h1,h2⟩|⟨h1,f,s,e,he,h2⟩
  ·obtain⟨hs,hle⟩:=QD h1
   rw[h2]
   simp only[Y1,show((0:Int) != (0:Int))=false from rfl,Y8]
   rw[show decide (l.length+1≤bm)=true from Y4 (by unfold bm;omega),Y5,show decide ((0:Int)≤((b.length-r.length:Nat):Int))=true from Y4 (by omega),Y5,Int.toNat_natCast,
    show decide (b.length-r.length≤b.length)=true from Y4 (by omega),Y5,show decide (b.length≤b.length)=true from Y4 (by omega),Y5,hs,NA _ (by omega)]
   have kX:cX r:=by rw[←hs];exact cX.drop2 hb _
   rcases Lu kinds hK ks r m (i+1) (l++[f]) hd' (by omega) (fun k h=>hk k (Yk _ h)) kX (by omega) (by omega) (by simp;omega)with ⟨fs,t,h3,h4⟩|⟨h3,e,he,h4⟩
   ·exact .inl ⟨f::fs,t,S8 h1 h3,by rw[h4];simp⟩
   ·refine .inr ⟨fun gs t h=>?_,e,he,h4⟩
    obtain⟨g,F7,t',rfl,q1,q2⟩:=LW h
    obtain⟨-,rfl⟩:=Q4 h1 q1
    exact h3 _ _ q2
  ·rw[h2]
   simp only[Y1,show(e != (0:Int))=true by simpa using he,Y5]
   refine .inr ⟨fun gs t h=>?_,e,he,rfl⟩
   obtain⟨g,F7,t',rfl,q1,q2⟩:=LW h
   exact h1 _ _ q1
theorem LS(ks b:List Int)(hK:ks.length≤1000)(hk:∀k,k∈ks→k=1∨k=3)(hb:cX b)(hL:b.length≤1073741824):
 (∃fs,jB ks b fs []∧kK FF ks b=some (0,fs))∨((∀fs,¬jB ks b fs [])∧∃e,e≠0∧kK FF ks b=some (e,[])):=by
 unfold kK
 rcases Lu ks hK ks b FF 0 [] (by simp) (by simp) hk hb hL (by rw[show FF=1048577+1+(FF-1048578)from by decide];omega) (by simpa using hK)with ⟨fs,r,h1,h2⟩|⟨h1,e,he,h2⟩
 ·rw[show((0:Nat):Int)=0 from rfl]at h2
  rw[h2];simp only[Y1,Sum.elim_inr,YL]
  cases r with
  |nil=>exact .inl ⟨fs,h1,by simp⟩
  |cons y r=>
   refine .inr ⟨fun gs h=>?_,21,by decide,?_⟩
   ·obtain⟨-,h⟩:=K9 h1 h;cases h
   ·rw[show decide ((0:Int)<((y::r).length:Int))=true from Y4 (by simp),Y5]
 ·rw[show((0:Nat):Int)=0 from rfl]at h2
  rw[h2]
  exact .inr ⟨fun gs h=>h1 _ _ h,e,he,rfl⟩
set_option maxRecDepth 20000
theorem LN(k n:Nat):cX (ef k n):=by
 induction k generalizing n with
 |zero=>intro y hy;simp[ef]at hy;omega
 |succ k ih=>
  unfold ef;split
  ·intro y hy;simp at hy;omega
  ·intro y hy
   rcases Yh.1 hy with rfl|hy
   ·omega
   ·exact ih _ y hy
theorem cX.og{a b:List Int}(ha:cX a)(hb:cX b):cX (a++b):=fun y hy=>by
 rcases Yw.1 hy with h|h
 ·exact ha y h
 ·exact hb y h
theorem Ba:∀{l:List bW} {b:List Int},cV l=some b→cX b
 | [],b,h=>by simp[cV]at h;subst h;intro y hy;cases hy
 |f::r,b,h=>by
  simp only[cV]at h
  cases h1:dD f with
  |none=>rw[h1]at h;cases h
  |some a=>
   rw[h1]at h
   cases h2:cV r with
   |none=>rw[h2]at h;cases h
   |some c=>
    rw[h2]at h;simp only[Yo,Y2]at h;subst h
    refine cX.og ?_ (Ba h2)
    unfold dD at h1;split at h1
    ·split at h1
     ·injection h1 with h1;subst h1;exact LN _ _
     ·cases h1
    ·split at h1
     ·injection h1 with h1;subst h1;exact cX.og (LN _ _) (GK _)
     ·cases h1
theorem sX{n:Int}(h:n<9223372036854775808):okF (bW.mk 1 n []):=.inl ⟨rfl,h⟩
theorem Dq(s:List UInt8):okF (bW.mk 3 0 s):=.inr rfl
def nr(k:Nat)(l:List bW):Prop:=l.length≤k∧∀f,f∈l→okF f
theorem nr.add{k:Nat}{l:List bW}{f:bW}(h:nr k l)(hf:okF f):nr (k+1) (l++[f]):=⟨by have:=h.1;simp;omega,fun g hg=>by
 rcases Yw.1 hg with q|q
 ·exact h.2 g q
 ·simp only[Ys]at q;subst q;exact hf⟩
theorem Sb(m:bV)(h:MB m):cr (Bn FF m) fun _=>True:=by
 obtain⟨h1,h2,h3,h4,h5,h6,h7,h8⟩:=h
 unfold Bn oi xO
 refine tT (fun _=>.ret trivial) fun hn=>tB (Q:=fun y=>y<2) (tC (fun _=>.ret (by decide)) fun _=>.ret (by decide)) fun y _ hy=>?_
 simp only[Y1,Yb]
 have h0:nr 9 [bW.mk 1 m.Kind [],bW.mk 1 m.eC [],bW.mk 1 m.To [],bW.mk 1 m.Term [],bW.mk 1 m.Index [],bW.mk 1 m.da [],bW.mk 1 m.aj [],bW.mk 1 y [],bW.mk 1 (m.Entries.length:Int) []]:=by
  refine⟨by simp,fun f hf=>?_⟩
  simp only[Yh,WQ,or_false]at hf
  rcases hf with rfl|rfl|rfl|rfl|rfl|rfl|rfl|rfl|rfl
  all_goals exact sX (by omega)
 refine tB (Q:=nr 263) ?_ fun l _ hl=>?_
 ·have:=dk (fun n (s:Nat×List bW)=>xW FF m n (s.1:Int) s.2) (fun s=>s.1≤m.Entries.length∧nr (9+2*s.1) s.2) (fun s=>m.Entries.length-s.1) (nr 263) (by
   rintro n ⟨i,l⟩ ⟨g1,g2⟩ k;simp only at g1 g2 k⊢;simp only[xW,oi,xO,Y1]
   refine tT (fun a=>?_) fun _=>.ret ⟨by have:=g2.1;omega,g2.2⟩
   have gl:=g2.1
   refine tG (by omega) (tE (by simp;omega) fun e _ he=>tG (by unfold bm;omega) ?_)
   rw[w1 (by omega),show l++[bW.mk 1 e.Term [],bW.mk 3 0 e.Data]=(l++[bW.mk 1 e.Term []])++[bW.mk 3 0 e.Data] by simp]
   exact k (i+1,_) ⟨by simp only;omega,(g2.add (sX (h8 e he))).add (Dq _)⟩ (by simp only;omega)) FF (0,_) ⟨YC _,h0⟩ (by simp only[FF];omega)
  exact this
 ·have dJ:=(hl.add (Dq m.Data))
  have hl1:=hl.1
  refine tG (by unfold bm;omega) (tO (Dx _ dJ.2 (by have:=dJ.1;omega)) ?_)
  cases hb:cV (l++[bW.mk 3 0 m.Data])with
  |none=>exact .ret trivial
  |some b=>
   simp only[bne_self_eq_false,Y8,HQ (Ba hb),Y5];exact .ret trivial
def n63(n:Int):Prop:=0≤n∧n<9223372036854775808
theorem u7{n:Int}(h:n63 n):nf 1 (bW.mk 1 n []):=⟨rfl,.inl ⟨rfl,h.1,h.2,rfl⟩⟩
def hv(p:Int×Int)(b:List Int):Int×Int:=
 if b[0]? =some 1 then(kK FF [1,1,1] b).elim p fun y=>(((y.2[1]?).map (·.N)).getD 0,((y.2[2]?).map (·.N)).getD 0)else p
theorem AD{p:Int×Int}{b:List Int}(h:b[0]? ≠some 1):hv p b=p:=if_neg h
theorem JD{p:Int×Int}{b:List Int}{y:Int×List bW}{z1 z2:bW}(hx:b[0]? =some 1)(he:kK FF [1,1,1] b=some y)(h1:y.2[1]? =some z1)(h2:y.2[2]? =some z2):hv p b=(z1.N,z2.N):=by
 unfold hv;rw[if_pos hx,he,Option.elim_some,h1,h2];rfl
def jZ(p:Int×Int)(rs:List (List Int)):Int×Int:=rs.foldl hv p
theorem AK(p:Int×Int)(a b:List (List Int)):jZ p (a++b)=jZ (jZ p a) b:=List.foldl_append
structure kM(p q:Int×Int)(l:List (List Int)):Prop where
 al:∀m,jZ p (l.take m)=p∨jZ p (l.take m)=q
 en:jZ p l=q
theorem kM.add{p q:Int×Int}{l:List (List Int)}{x:List Int}(h:kM p q l)(hx:x[0]? ≠some 1):kM p q (l++[x]):=⟨fun m=>by
 by_cases k:m≤l.length
 ·rw[WC k];exact h.al m
 ·rw[YV (by simp;omega),AK,h.en];exact .inr (AD hx),by rw[AK,h.en];exact AD hx⟩
theorem kM.nil{p:Int×Int}:kM p p []:=⟨fun m=>.inl (by rw[V5];rfl),rfl⟩
theorem kM.one{p q:Int×Int}{x:List Int}(h:hv p x=q):kM p q [x]:=⟨fun m=>by
 cases m with
 |zero=>exact .inl rfl
 |succ m=>rw[List.take_succ_cons,V5];exact .inr h,h⟩
theorem Kg:∀{ks:List Int} {fs:List bW},oI ks fs→∃b,cV fs=some b
 | [],[],_=>⟨[],rfl⟩
 | [],_::_,h=>h.elim
 |_::_,[],h=>h.elim
 |k::ks,f::fs,h=>by
  obtain⟨b,hb⟩:=Kg h.2
  rcases xB h.1 with ⟨-,e, -⟩|⟨-,e, -⟩
  ·exact⟨_,by simp only[cV];rw[e,hb];rfl⟩
  ·exact⟨_,by simp only[cV];rw[e,hb];rfl⟩
theorem Lx{k:Int}{fs:List bW}{b:List Int}(hk:k=1∨k=2∨k=3∨k=4)(e:cV (bW.mk 1 k []::fs)=some b):b[0]? =some k:=by
 have e1:dD (bW.mk 1 k [])=some [k]:=by rcases hk with rfl|rfl|rfl|rfl<;>rfl
 simp only[cV]at e;rw[e1]at e
 cases h2:cV fs with
 |none=>rw[h2]at e;cases e
 |some c=>
  rw[h2]at e;simp only[Yo,Y2]at e;rw[←e];rfl
theorem Q9{t v:Int}(ht:n63 t)(hw:n63 v):∃b,qO FF 1 [bW.mk 1 t [],bW.mk 1 v []]=some b∧(cX b∧b.length≤6700000)∧∀p,hv p b=(t,v):=by
 have hn:oI [1,1,1] [bW.mk 1 1 [],bW.mk 1 t [],bW.mk 1 v []]:=⟨u7 ⟨by decide,by decide⟩,u7 ht,u7 hw,trivial⟩
 obtain⟨b,hb⟩:=Kg hn
 have e:=Dx [bW.mk 1 1 [],bW.mk 1 t [],bW.mk 1 v []] (fun f hf=>by
  simp only[Yh,WQ,or_false]at hf
  rcases hf with rfl|rfl|rfl
  ·exact .inl ⟨rfl,by decide⟩
  ·exact .inl ⟨rfl,ht.2⟩
  ·exact .inl ⟨rfl,hw.2⟩) (by simp)
 rw[hb]at e
 have hy:=Ba hb
 have hlen:=(Hr hb).2
 simp only[Ye,YB]at hlen
 have:cr (qO FF 1 [bW.mk 1 t [],bW.mk 1 v []]) fun y=>y=b:=by
  unfold qO
  exact tO (y:=bW.mk 1 1 []) rfl (tG (by unfold bm;simp) (tO e (.ret rfl)))
 obtain⟨y,e2,rfl⟩:=this
 refine⟨y,e2,⟨hy,by omega⟩,fun p=>?_⟩
 have hF:jB [1,1,1] y [bW.mk 1 1 [],bW.mk 1 t [],bW.mk 1 v []] []:=⟨hn,y,hb,by simp⟩
 rcases LS [1,1,1] y (by decide) (by simp) hy (by omega)with ⟨fs,h1,h2⟩|⟨h1, -⟩
 ·rw[(K9 h1 hF).1]at h2
  exact JD (Lx (.inl rfl) hb) h2 rfl rfl
 ·exact absurd hF (h1 _)
end Go.T
