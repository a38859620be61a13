import Derived.Test.YtjpmdkgonlmddaaGreatDoorLA
import Derived.Test.YtjpmdkgonlmddaaGreatDoorLD
set_option linter.unusedVariables false
set_option linter.unusedSimpArgs false
namespace Go.T
open Go Go.Ab
def byI(s:List UInt8):List Int:=List.map (fun(b:UInt8)=>(((UInt8.toNat b):Nat):Int)) s
theorem Ziq(s:List UInt8):(byI s).length=s.length:=by simp[byI]
theorem Znb(s:List UInt8):Byt (byI s):=fun y hy=>by
 obtain⟨b,_,rfl⟩:=YK.1 hy
 have:=b.toNat_lt
 omega
def okF(f:Zaf):Prop:=(f.Kind=1∧f.N<9223372036854775808)∨f.Kind=3
def encF1(f:Zaf):Option (List Int):=
 if f.Kind=1 then(if 0≤f.N then some (putL f.N.toNat)else none)else(if f.S.length≤65536 then some (putL f.S.length++byI f.S)else none)
def encFs:List Zaf→Option (List Int)
 | []=>some []
 |f::r=>match encF1 f with
  |none=>none
  |some a=>(encFs r).map (a++ ·)
theorem ZiA(n:Nat):1≤(putL n).length∧(putL n).length≤10:=ZeR 9 n
theorem Zp8{f:Zaf}{a:List Int}(h:encF1 f=some a):1≤a.length∧a.length≤65546:=by
 unfold encF1 at h;split at h
 ·split at h
  ·injection h with h;subst h;have:=ZiA f.N.toNat;omega
  ·cases h
 ·split at h
  ·injection h with h;subst h;have:=ZiA f.S.length;simp[Ziq];omega
  ·cases h
theorem Zmy:∀{l:List Zaf} {b:List Int},encFs l=some b→l.length≤b.length∧b.length≤65546*l.length
 | [],b,h=>by simp[encFs]at h;subst h;simp
 |f::r,b,h=>by
  simp only[encFs]at h
  cases h1:encF1 f with
  |none=>rw[h1]at h;cases h
  |some a=>
   rw[h1]at h
   cases h2:encFs r with
   |none=>rw[h2]at h;cases h
   |some c=>
    rw[h2]at h;simp only[Yq,Y1]at h;subst h
    have:=Zp8 h1
    have:=Zmy h2
    simp;omega
def encR(l:List Int)(o:Option (List Int)):(Int×List Int)⊕List Int:=match o with|some b=>.inr (l++b)|none=>.inl (1,[])
theorem Zp7{f:Zaf}{r:List Zaf}{l:List Int}:encR l (encFs (f::r))=(match encF1 f with|none=>.inl (1,[])|some a=>encR (l++a) (encFs r)):=by
 simp only[encFs]
 cases encF1 f with
 |none=>rfl
 |some a=>cases encFs r<;>simp[encR]
theorem Zmx(list:List Zaf)(h1000:list.length≤1000):∀(r:List Zaf) (m i:Nat) (l:List Int),list.drop i=r→i≤list.length→(∀f,f∈r→okF f)→r.length<m→l.length+65546*r.length+20≤LIM→
 ZbP FF list m (i:Int) l=some (encR l (encFs r))
 | [],m,i,l,hd,hi,_,hm,hl=>by
  obtain⟨m,rfl⟩:∃q,m=q+1:=⟨m-1,by omega⟩
  have:list.length≤i:=List.drop_eq_nil_iff.1 hd
  simp only[ZbP]
  rw[show decide ((i:Int)<(list.length:Int))=false from Yi (by omega),Y7]
  simp[encR,encFs]
 |f::r,m,i,l,hd,hi,hok,hm,hl=>by
  obtain⟨m,rfl⟩:∃q,m=q+1:=⟨m-1,by simp at hm;omega⟩
  have hil:i<list.length:=by
   rcases YX i list.length with h|h
   ·exact h
   ·rw[List.drop_eq_nil_iff.2 h]at hd;cases hd
  have hf:list[i]? =some f:=by
   have:=YM (xs:=list) (i:=i) (j:=0)
   rw[hd]at this;simpa using this.symm
  have hd':list.drop (i+1)=r:=by rw[←Va,hd];rfl
  simp only[Yf]at hm hl
  have ih:=fun l hl=>Zmx list h1000 r m (i+1) l hd' (by omega) (fun f hf=>hok f (Yk _ hf)) (by omega) hl
  rw[Zp7];simp only[ZbP]
  rw[show decide ((i:Int)<(list.length:Int))=true from Y2 (by omega),Y4,
   show decide ((0:Int)≤(i:Int))=true from Y2 (by omega),Y4,Int.toNat_natCast,hf]
  simp only[Y0]
  have hw:IntKind.wrap IntKind.i64 ((i:Int)+1)=((i+1:Nat):Int):=by rw[YG];omega
  rw[hw]
  rcases hok f Ys with ⟨hk,hN⟩|hk
  ·have e1:(f.Kind==(1:Int))=true:=by rw[hk];rfl
   rw[e1,Y4];simp only[Y0]
   by_cases h0:0≤f.N
   ·have e2:encF1 f=some (putL f.N.toNat):=by unfold encF1;rw[if_pos hk,if_pos h0]
    rw[Y2 h0,Y4,e2]
    have e3:IntKind.wrap IntKind.u64 f.N=((f.N.toNat:Nat):Int):=by rw[WA];omega
    rw[e3,Znv f.N.toNat (by omega) l (by omega)]
    simp only[Y0,Sum.elim_inr]
    exact ih _ (by have:=ZiA f.N.toNat;simp;omega)
   ·have e2:encF1 f=none:=by unfold encF1;rw[if_pos hk,if_neg h0]
    rw[Yi h0,Y7,e2]
    have e4:(f.Kind==(2:Int))=false:=by rw[hk];rfl
    have e5:(f.Kind==(3:Int))=false:=by rw[hk];rfl
    rw[e4,Y7,e5,Y7];simp
  ·have e1:(f.Kind==(1:Int))=false:=by rw[hk];rfl
   have e4:(f.Kind==(2:Int))=false:=by rw[hk];rfl
   have e5:(f.Kind==(3:Int))=true:=by rw[hk];rfl
   have hk1:¬f.Kind=1:=by rw[hk];decide
   rw[e1,Y7,e4,e5,Y4];simp only[Y0,Y7]
   by_cases h0:f.S.length≤65536
   ·have e2:encF1 f=some (putL f.S.length++byI f.S):=by unfold encF1;rw[if_neg hk1,if_pos h0]
    rw[show decide (((f.S.length:Nat):Int)≤(65536:Int))=true from Y2 (by omega),Y4,e2]
    have e3:IntKind.wrap IntKind.u64 ((f.S.length:Nat):Int)=((f.S.length:Nat):Int):=by rw[WA];omega
    have hp:=ZiA f.S.length
    rw[e3,Znv f.S.length (by omega) l (by omega)]
    simp only[Y0]
    rw[show decide (List.length (l++putL f.S.length)+List.length f.S≤LIM)=true from Y2 (by simp;omega),Y4]
    simp only[Y0,Sum.elim_inr]
    rw[show l++putL f.S.length++List.map (fun(b:UInt8)=>(((UInt8.toNat b):Nat):Int)) f.S=l++(putL f.S.length++byI f.S) by rw[YE];rfl]
    exact ih _ (by simp[Ziq];omega)
   ·have e2:encF1 f=none:=by unfold encF1;rw[if_neg hk1,if_neg h0]
    rw[show decide (((f.S.length:Nat):Int)≤(65536:Int))=false from Yi (by omega),Y7,e2]
    simp
theorem Zki(list:List Zaf)(hok:∀f,f∈list→okF f)(hl:list.length≤1000):Zdk FF list=some (match encFs list with|some b=>(0,b)|none=>(1,[])):=by
 unfold Zdk
 rw[show(0:Int)=((0:Nat):Int)from rfl,Zmx list hl list FF 0 [] (by simp) (by omega) hok (by show list.length<4000000;omega) (by simp[LIM];omega)]
 cases encFs list<;>simp[encR]
theorem Zpg:∀(hi:List Int) (k y:Nat),hi.length≤k→(∀z,z∈hi→128≤z∧z≤255)→y<128→(hi≠[]→0<y)→
 ∃v:Nat,putN k v=hi++[(y:Int)]∧v<(y+1)*128^hi.length∧(0<y→0<v)
 | [],k,y,_,_,hy,_=>by
  refine⟨y,?_,by simp,fun h=>h⟩
  cases k with
  |zero=>simp[putN,Wf (show y<256 by omega)]
  |succ k=>simp[putN,hy]
 |z::hi,k,y,hk,hz,hy,h0=>by
  obtain⟨k,rfl⟩:∃q,k=q+1:=⟨k-1,by simp at hk;omega⟩
  have h0':=h0 (by simp)
  obtain⟨v,h1,h2,h3⟩:=Zpg hi k y (by simpa using hk) (fun w hw=>hz w (Yk _ hw)) hy (fun _=>h0')
  have hz0:=hz z Ys
  obtain⟨c,rfl⟩:∃c:Nat,z=((c+128:Nat):Int):=⟨(z-128).toNat,by omega⟩
  have hv:=h3 h0'
  refine⟨c+128*v,?_,?_,fun _=>by omega⟩
  ·rw[putN,if_neg (by omega),show(c+128*v)% 128=c by omega,show(c+128*v)/128=v by omega,h1];rfl
  ·rw[Yf,Nat.pow_succ,←Nat.mul_assoc]
   omega
def Good(b:List Int)(i:Nat):Prop:=∃(hi:List Int) (y:Nat) (r:List Int),b=hi++(y:Int)::r∧i+hi.length≤9∧(∀z,z∈hi→128≤z∧z≤255)∧y<128∧(0<i+hi.length→0<y)∧(i+hi.length=9→y≤1)
theorem Good.num{b:List Int}(h:Good b 0):∃(v:Nat) (r:List Int),v<18446744073709551616∧b=putL v++r:=by
 obtain⟨hi,y,r,rfl,h1,h2,h3,h4,h5⟩:=h
 rw[YR]at h1 h4 h5
 obtain⟨v,g1,g2,_⟩:=Zpg hi 9 y h1 h2 h3 (fun h=>h4 (WN.2 h))
 refine⟨v,r,?_,by unfold putL;rw[g1];simp⟩
 by_cases h9:hi.length=9
 ·have:=h5 h9
  rw[h9]at g2
  have:(y+1)*128^9≤2*128^9:=Yo _ (by omega)
  omega
 ·have h8:128^hi.length≤128^8:=Nat.pow_le_pow_right (by omega) (by omega)
  have:(y+1)*128^hi.length≤128*128^8:=Nat.mul_le_mul (by omega) h8
  omega
theorem Zl1:∀(k v:Nat),v<128^(k+1)→∃(hi:List Int) (y:Nat),putN k v=hi++[(y:Int)]∧hi.length≤k∧(∀z,z∈hi→128≤z∧z≤255)∧y<128∧(hi≠[]→0<v→0<y)∧(0<v→0<y)∧y*128^hi.length≤v
 |0,v,h=>⟨[],v,by simp at h;simp[putN,Wf (show v<256 by omega)],by simp,by simp,by simpa using h,by simp,fun h=>h,by simp⟩
 |k+1,v,h=>by
  by_cases hv:v<128
  ·exact⟨[],v,by simp[putN,hv],by simp,by simp,hv,by simp,fun h=>h,by simp⟩
  ·obtain⟨hi,y,h1,h2,h3,h4,h5,h6,h7⟩:=Zl1 k (v/128) (by rw[Nat.pow_succ]at h;omega)
   refine⟨((v% 128+128:Nat):Int)::hi,y,by rw[putN,if_neg hv,h1];rfl,by simpa using h2,fun z hz=>?_,h4,fun _ _=>h6 (by omega),fun _=>h6 (by omega),?_⟩
   ·rcases Yj.1 hz with rfl|hz
    ·omega
    ·exact h3 z hz
   ·rw[Yf,Nat.pow_succ,←Nat.mul_assoc]
    omega
theorem ZnD(v:Nat)(h:v<18446744073709551616)(r:List Int):Good (putL v++r) 0:=by
 obtain⟨hi,y,h1,h2,h3,h4,h5,h6,h7⟩:=Zl1 9 v (by omega)
 refine⟨hi,y,r,by unfold putL;rw[h1];simp,by omega,h3,h4,fun h=>?_,fun h=>?_⟩
 ·rw[YR]at h
  have hne:hi≠[]:=WN.1 h
  rcases V7 v with hv|hv
  ·subst hv
   have:putN 9 0=[0]:=rfl
   rw[this]at h1
   cases hi with
   |nil=>exact absurd rfl hne
   |cons z hi=>simp at h1
  ·exact h5 hne hv
 ·rw[YR]at h
  rw[h]at h7
  have:(128:Nat)^9=9223372036854775808:=by decide
  rw[this]at h7;omega
theorem Zr3(b:List Int)(hb:Byt b):∀(k i x m:Nat),i+k=9→k<m→x<18446744073709551616→
 Good (b.drop i) i∨Zbn FF b m (x:Int) (i:Int)=some (.inl (0,0,21))∨Zbn FF b m (x:Int) (i:Int)=some (.inr ()):=by
 intro k
 induction k with
 |zero=>
  intro i x m hi hm hx
  obtain⟨m,rfl⟩:∃q,m=q+1:=⟨m-1,by omega⟩
  rcases YX i b.length with hl|hl
  ·obtain⟨y,hy,hy2⟩:=ZlL hb hl
   rw[Ze7 b m i x y hy hx hy2 (by omega)]
   by_cases hc:(i=9∧1<y)∨(0<i∧y=0)
   ·rw[if_pos hc];exact .inr (.inl rfl)
   ·left
    exact⟨[],y,b.drop (i+1),by rw[W6 hl];rw[Y3 hl]at hy;injection hy with hy;rw[hy];rfl,by simp;omega,by simp,by omega,fun _=>by omega,fun _=>by omega⟩
  ·exact .inr (.inr (ZjD b m i x hl))
 |succ k ih=>
  intro i x m hi hm hx
  obtain⟨m,rfl⟩:∃q,m=q+1:=⟨m-1,by omega⟩
  rcases YX i b.length with hl|hl
  ·obtain⟨y,hy,hy2⟩:=ZlL hb hl
   have hdrop:b.drop i=(y:Int)::b.drop (i+1):=by rw[W6 hl];rw[Y3 hl]at hy;injection hy with hy;rw[hy]
   rw[Ze7 b m i x y hy hx hy2 (by omega)]
   by_cases hc:(i=9∧1<y)∨(0<i∧y=0)
   ·rw[if_pos hc];exact .inr (.inl rfl)
   ·rw[if_neg hc]
    by_cases h128:y<128
    ·left
     exact⟨[],y,b.drop (i+1),hdrop,by simp;omega,by simp,h128,fun h=>by simp at h;omega,fun h=>by simp at h;omega⟩
    ·rw[if_neg h128]
     rcases ih (i+1) (acc x y i) m (by omega) (by omega) (Zn1 x y i hx)with ⟨hi',y',r,g1,g2,g3,g4,g5,g6⟩|e|e
     ·left
      refine⟨(y:Int)::hi',y',r,by rw[hdrop,g1];rfl,by simp;omega,fun z hz=>?_,g4,fun _=>g5 (by omega),fun h=>g6 (by simp at h;omega)⟩
      rcases Yj.1 hz with rfl|hz
      ·omega
      ·exact g3 z hz
     ·exact .inr (.inl e)
     ·exact .inr (.inr e)
  ·exact .inr (.inr (ZjD b m i x hl))
theorem ZoT(b:List Int)(hb:Byt b):(∃(v:Nat) (r:List Int),v<18446744073709551616∧b=putL v++r∧Zb0 FF b=some ((v:Int),((putL v).length:Int),0))∨(¬Good b 0∧∃e,e≠0∧Zb0 FF b=some (0,0,e)):=by
 by_cases hg:Good b 0
 ·obtain⟨v,r,h1,h2⟩:=hg.num
  exact .inl ⟨v,r,h1,h2,by rw[h2];exact Ziv v h1 r⟩
 ·right
  refine⟨hg,?_⟩
  rcases Zr3 b hb 9 0 0 FF rfl (by decide) (by decide)with h|e|e
  ·exact absurd h hg
  ·refine⟨21,by decide,?_⟩
   unfold Zb0;simp only[Int.natCast_zero]at e;rw[e];rfl
  ·refine⟨20,by decide,?_⟩
   unfold Zb0;simp only[Int.natCast_zero]at e;rw[e];rfl
theorem wi(n:Nat)(h:n<9223372036854775808):IntKind.wrap IntKind.i64 ((n:Nat):Int)=(n:Int):=by rw[YG];omega
theorem wi1(n:Nat)(h:n+1<9223372036854775808):IntKind.wrap IntKind.i64 (((n:Nat):Int)+1)=((n+1:Nat):Int):=by rw[YG];omega
def nf(k:Int)(f:Zaf):Prop:=f.Kind=k∧((k=1∧0≤f.N∧f.N<9223372036854775808∧f.S=[])∨(k=3∧f.N=0∧f.S.length≤65536))
def nfs:List Int→List Zaf→Prop
 | [],[]=>True
 |k::ks,f::fs=>nf k f∧nfs ks fs
 |_,_=>False
theorem Zin:∀{ks:List Int} {fs:List Zaf},nfs ks fs→fs.length=ks.length
 | [],[],_=>rfl
 |_::ks,_::fs,h=>by simp[Zin h.2]
 | [],_::_,h=>h.elim
 |_::_,[],h=>h.elim
theorem Zmb{k:Int}{f:Zaf}(h:nf k f):(k=1∧encF1 f=some (putL f.N.toNat)∧f.N.toNat<9223372036854775808)∨(k=3∧encF1 f=some (putL f.S.length++byI f.S)∧f.S.length≤65536):=by
 obtain⟨h1,⟨h2,h3,h4,_⟩|⟨h2,_,h3⟩⟩:=h
 ·left;refine⟨h2,?_,by omega⟩;unfold encF1;rw[if_pos (by omega),if_pos h3]
 ·right;refine⟨h2,?_,h3⟩;unfold encF1;rw[if_neg (by omega),if_pos h3]
theorem Zqj:∀{s t:List UInt8},byI s=byI t→s=t
 | [],[],_=>rfl
 | [],_::_,h=>by simp[byI]at h
 |_::_,[],h=>by simp[byI]at h
 |a::s,b::t,h=>by
  simp only[byI,Yp,List.cons.injEq]at h
  obtain⟨h1,h2⟩:=h
  have h1:a.toNat=b.toNat:=by omega
  rw[UInt8.toNat_inj.1 h1,Zqj (s:=s) (t:=t) h2]
theorem Zln{v w:Nat}{r t:List Int}(hv:v<18446744073709551616)(hw:w<18446744073709551616)(h:putL v++r=putL w++t):v=w∧r=t:=by
 have h1:=Ziv v hv r
 have h2:=Ziv w hw t
 rw[h,h2]at h1;simp only[Y1,Ws]at h1
 have e:v=w:=by omega
 subst e;exact⟨rfl,Vc h⟩
theorem ZnS{k:Int}{f g:Zaf}{a c r t:List Int}(hf:nf k f)(hg:nf k g)(ha:encF1 f=some a)(hc:encF1 g=some c)(h:a++r=c++t):f=g∧r=t:=by
 rcases Zmb hf with ⟨k1,e1,l1⟩|⟨k1,e1,l1⟩<;>rcases Zmb hg with ⟨k2,e2,l2⟩|⟨k2,e2,l2⟩
 ·rw[ha]at e1;injection e1 with e1;subst e1
  rw[hc]at e2;injection e2 with e2;subst e2
  obtain⟨h1,h2⟩:=Zln (by omega) (by omega) h
  refine⟨?_,h2⟩
  obtain⟨q1,⟨_,q2,_,q3⟩|⟨q2,_⟩⟩:=hf<;>obtain⟨q4,⟨_,q5,_,q6⟩|⟨q5,_⟩⟩:=hg
  ·cases f;cases g
   simp only at q1 q2 q3 q4 q5 q6 h1;simp only[Zaf.mk.injEq]
   exact⟨by omega,by omega,by rw[q3,q6]⟩
  all_goals omega
 ·omega
 ·omega
 ·rw[ha]at e1;injection e1 with e1;subst e1
  rw[hc]at e2;injection e2 with e2;subst e2
  rw[YE,YE]at h
  obtain⟨h1,h2⟩:=Zln (by omega) (by omega) h
  have h3:=List.append_inj h2 (by rw[Ziq,Ziq];exact h1)
  have h4:=Zqj h3.1
  refine⟨?_,h3.2⟩
  obtain⟨q1,⟨q2,_⟩|⟨_,q2,_⟩⟩:=hf<;>obtain⟨q4,⟨q5,_⟩|⟨_,q5,_⟩⟩:=hg
  case inr.inr=>
   cases f;cases g;simp only at q1 q2 q4 q5 h4;simp only[Zaf.mk.injEq]
   exact⟨by omega,by omega,h4⟩
  all_goals omega
theorem Zmw:∀{ks:List Int} {fs gs:List Zaf} {a c r t:List Int},nfs ks fs→nfs ks gs→encFs fs=some a→encFs gs=some c→a++r=c++t→fs=gs∧r=t
 | [],[],[],a,c,r,t,_,_,ha,hc,h=>by
  simp[encFs]at ha hc;subst ha;subst hc;exact⟨rfl,by simpa using h⟩
 |k::ks,f::fs,g::gs,a,c,r,t,hf,hg,ha,hc,h=>by
  simp only[encFs]at ha hc
  cases h1:encF1 f with
  |none=>rw[h1]at ha;cases ha
  |some a1=>
   cases h2:encF1 g with
   |none=>rw[h2]at hc;cases hc
   |some c1=>
    rw[h1]at ha;rw[h2]at hc
    cases h3:encFs fs with
    |none=>rw[h3]at ha;cases ha
    |some a2=>
     cases h4:encFs gs with
     |none=>rw[h4]at hc;cases hc
     |some c2=>
      rw[h3]at ha;rw[h4]at hc;simp only[Yq,Y1]at ha hc;subst ha;subst hc;rw[YE,YE]at h
      obtain⟨e1,e2⟩:=ZnS hf.1 hg.1 h1 h2 h
      obtain⟨e3,e4⟩:=Zmw hf.2 hg.2 h3 h4 e2
      exact⟨by rw[e1,e3],e4⟩
 | [],[],_::_,_,_,_,_,_,h,_,_,_=>h.elim
 | [],_::_,_,_,_,_,_,h,_,_,_,_=>h.elim
 |_::_,[],_,_,_,_,_,h,_,_,_,_=>h.elim
 |_::_,_::_,[],_,_,_,_,_,h,_,_,_=>h.elim
theorem Zip{l:List Int}(h:Byt l):Zgz l=true:=by
 unfold Zgz;rw[YF];intro y hy
 have:=h y hy
 simp only[Y8,Ym];omega
theorem Zna{l:List Int}(h:Byt l):byI (toBytes l)=l:=by
 induction l with
 |nil=>rfl
 |cons a l ih=>
  have ha:=h a Ys
  have ih:=ih (fun y hy=>h y (Yk _ hy))
  simp only[toBytes,byI,Yp]at ih⊢;rw[ih];congr 1;simp only[UInt8.toNat_ofNat'];omega
def Fld(k:Int)(b:List Int)(f:Zaf)(r:List Int):Prop:=nf k f∧∃a,encF1 f=some a∧b=a++r
theorem Zim{k:Int}{b:List Int}(h:¬Good b 0)(f:Zaf)(r:List Int):¬Fld k b f r:=by
 rintro⟨hf,a,ha,rfl⟩
 rcases Zmb hf with ⟨_,e,l⟩|⟨_,e,l⟩
 ·rw[ha]at e;injection e with e;subst e
  exact h (ZnD _ (by omega) r)
 ·rw[ha]at e;injection e with e;subst e
  rw[YE]at h
  exact h (ZnD _ (by omega) _)
theorem ZpZ{b:List Int}{v:Nat}{r:List Int}(hv:v<18446744073709551616)(hb:b=putL v++r):(v<9223372036854775808→Fld 1 b (Zaf.mk 1 (v:Int) []) r)∧(9223372036854775808≤v→∀f t,¬Fld 1 b f t):=by
 constructor
 ·intro h
  refine⟨⟨rfl,.inl ⟨rfl,by simp only;omega,by simp only;omega,rfl⟩⟩,putL v,?_,hb⟩
  unfold encF1;rw[if_pos rfl,if_pos (by simp only;omega)];simp
 ·rintro h f t ⟨hf,a,ha,hb2⟩
  rcases Zmb hf with ⟨_,e,l⟩|⟨e,_⟩
  ·rw[ha]at e;injection e with e;subst e
   have:=(Zln hv (by omega) (hb.symm.trans hb2)).1
   omega
  ·omega
theorem Byt.right2{a b:List Int}(h:Byt (a++b)):Byt b:=fun y hy=>h y (Yy.2 (.inr hy))
theorem Byt.take2{a:List Int}(h:Byt a)(n:Nat):Byt (a.take n):=fun y hy=>h y (YZ hy)
theorem Byt.drop2{a:List Int}(h:Byt a)(n:Nat):Byt (a.drop n):=fun y hy=>h y (Wc hy)
theorem ZlA{b:List Int}{n:Nat}{r:List Int}(hbt:Byt b)(hn:n<18446744073709551616)(hb:b=putL n++r):
 (n≤65536→n≤r.length→Fld 3 b (Zaf.mk 3 0 (toBytes (r.take n))) (r.drop n))∧(65536<n∨r.length<n→∀f t,¬Fld 3 b f t):=by
 have hr:Byt r:=Byt.right2 (a:=putL n) (hb▸hbt)
 constructor
 ·intro h1 h2
  have hl:(toBytes (r.take n)).length=n:=by simp[toBytes];omega
  refine⟨⟨rfl,.inr ⟨rfl,rfl,by simp only;omega⟩⟩,putL n++r.take n,?_,by rw[hb,YE,WV]⟩
  unfold encF1;rw[if_neg (by simp only;decide),if_pos (by simp only;omega)]
  simp only;rw[hl,Zna (Byt.take2 hr n)]
 ·rintro h f t ⟨hf,a,ha,hb2⟩
  rcases Zmb hf with ⟨e,_⟩|⟨_,e,l⟩
  ·omega
  ·rw[ha]at e;injection e with e;subst e
   rw[YE]at hb2
   obtain⟨h1,h2⟩:=Zln hn (by omega) (hb.symm.trans hb2)
   have:=YI List.length h2
   simp[Ziq]at this;omega
theorem fd63(v:Nat)(h:v<18446744073709551616):((@Int.fdiv (v:Int) ((2:Int)^(min (Int.toNat (63:Int)) 64))) != (0:Int))=decide (9223372036854775808≤v):=by
 have e:Int.fdiv (v:Int) ((2:Int)^(min (Int.toNat 63) 64))=((v/9223372036854775808:Nat):Int):=by
  show Int.fdiv (v:Int) 9223372036854775808=_
  rw[Wb _ (by omega)];omega
 rw[e]
 by_cases hv:9223372036854775808≤v
 ·rw[Y2 hv]
  have:((v/9223372036854775808:Nat):Int)≠0:=by omega
  simpa using this
 ·rw[Yi hv]
  have:((v/9223372036854775808:Nat):Int)=0:=by omega
  rw[this];rfl
theorem Zoo(k:Int)(hk:k=1∨k=3)(b:List Int)(hb:Byt b)(hL:b.length≤1073741824):
 (∃f r,Fld k b f r∧Zcv FF k b=some (f,((b.length-r.length:Nat):Int),0))∨((∀f r,¬Fld k b f r)∧∃f s e,e≠0∧Zcv FF k b=some (f,s,e)):=by
 rcases ZoT b hb with ⟨v,r,hv,hbr,ht⟩|⟨hg,e,he,ht⟩
 ·have hlen:b.length=(putL v).length+r.length:=by rw[hbr];simp
  have hp:=ZiA v
  unfold Zcv
  rcases hk with rfl|rfl
  ·simp only[show((1:Int) != (1:Int))=false from rfl,Y7,Y0,ht,show((0:Int) != (0:Int))=false from rfl,show((1:Int)==(1:Int))=true from rfl,Y4,fd63 v hv]
   by_cases h63:9223372036854775808≤v
   ·rw[Y2 h63]
    simp only[Y4,Y0,Sum.elim_inl]
    exact .inr ⟨(ZpZ hv hbr).2 h63,_,_,21,by decide,rfl⟩
   ·rw[Yi h63]
    simp only[Y7,Y0,Sum.elim_inr]
    refine .inl ⟨_,r,(ZpZ hv hbr).1 (by omega),?_⟩
    rw[wi v (by omega),hlen,Nat.add_sub_cancel]
  ·simp only[show((3:Int) != (1:Int))=true from rfl,show((3:Int) != (2:Int))=true from rfl,show((3:Int) != (3:Int))=false from rfl,Y7,Y4,Y0,ht,show((0:Int) != (0:Int))=false from rfl,
    show((3:Int)==(1:Int))=false from rfl,show((3:Int)==(2:Int))=false from rfl]
   by_cases h1:65536<v
   ·rw[show decide ((65536:Int)<(v:Int))=true from Y2 (by omega)]
    simp only[Y4,Y0,Sum.elim_inl]
    exact .inr ⟨(ZlA hb hv hbr).2 (.inl h1),_,_,21,by decide,rfl⟩
   ·rw[show decide ((65536:Int)<(v:Int))=false from Yi (by omega),Y7]
    have e1:IntKind.wrap IntKind.i64 (((b.length:Nat):Int)-(((putL v).length:Nat):Int))=((r.length:Nat):Int):=by rw[YG];omega
    have e2:IntKind.wrap IntKind.i64 ((((putL v).length:Nat):Int)+(v:Int))=(((putL v).length+v:Nat):Int):=by rw[YG];omega
    rw[e1,wi v (by omega),e2]
    by_cases h2:r.length<v
    ·rw[show decide (((r.length:Nat):Int)<(v:Int))=true from Y2 (by omega)]
     simp only[Y4,Y0,Sum.elim_inl]
     exact .inr ⟨(ZlA hb hv hbr).2 (.inr h2),_,_,20,by decide,rfl⟩
    ·rw[show decide (((r.length:Nat):Int)<(v:Int))=false from Yi (by omega),Y7,Int.toNat_natCast,Int.toNat_natCast]
     have hcut:List.drop (putL v).length (List.take ((putL v).length+v) b)=r.take v:=by
      rw[hbr,List.take_append,YS (by omega),Vb,List.drop_append,List.drop_length,WJ,V9];rfl
     have hrb:Byt (r.take v):=Byt.take2 (Byt.right2 (a:=putL v) (hbr▸hb)) v
     rw[show decide ((0:Int)≤(((putL v).length:Nat):Int))=true from Y2 (by omega),show decide ((0:Int)≤(((putL v).length+v:Nat):Int))=true from Y2 (by omega),
      show decide ((putL v).length≤(putL v).length+v)=true from Y2 (by omega),show decide ((putL v).length+v≤b.length)=true from Y2 (by omega),hcut,Zip hrb]
     simp only[Y4,Y0,Sum.elim_inr]
     refine .inl ⟨_,r.drop v,(ZlA hb hv hbr).1 (by omega) (by omega),?_⟩
     rw[Yz,show b.length-(r.length-v)=(putL v).length+v by omega]
 ·right
  refine⟨Zim hg,?_⟩
  unfold Zcv
  have e1:(e != (0:Int))=true:=by simpa using he
  rcases hk with rfl|rfl
  ·simp only[show((1:Int) != (1:Int))=false from rfl,Y7,Y0,ht,e1,Y4]
   exact⟨_,_,e,he,rfl⟩
  ·simp only[show((3:Int) != (1:Int))=true from rfl,show((3:Int) != (2:Int))=true from rfl,show((3:Int) != (3:Int))=false from rfl,Y7,Y4,Y0,ht,e1]
   exact⟨_,_,e,he,rfl⟩
def Flds(ks:List Int)(b:List Int)(fs:List Zaf)(r:List Int):Prop:=nfs ks fs∧∃a,encFs fs=some a∧b=a++r
theorem Zri(b:List Int):Flds [] b [] b:=⟨trivial,[],rfl,rfl⟩
theorem ZpY{k:Int}{ks b:List Int}{f:Zaf}{fs:List Zaf}{t r:List Int}(h1:Fld k b f t)(h2:Flds ks t fs r):Flds (k::ks) b (f::fs) r:=by
 obtain⟨hf,a,ha,rfl⟩:=h1
 obtain⟨hg,c,hc,rfl⟩:=h2
 refine⟨⟨hf,hg⟩,a++c,?_,(YE a c r).symm⟩
 simp[encFs,ha,hc]
theorem Zkg{k:Int}{ks b:List Int}{gs:List Zaf}{r:List Int}(h:Flds (k::ks) b gs r):∃f fs t,gs=f::fs∧Fld k b f t∧Flds ks t fs r:=by
 obtain⟨hn,a,ha,rfl⟩:=h
 cases gs with
 |nil=>exact hn.elim
 |cons f fs=>
  simp only[encFs]at ha
  cases h1:encF1 f with
  |none=>rw[h1]at ha;cases ha
  |some a1=>
   rw[h1]at ha
   cases h2:encFs fs with
   |none=>rw[h2]at ha;cases ha
   |some a2=>
    rw[h2]at ha;simp only[Yq,Y1]at ha;subst ha;exact⟨f,fs,a2++r,rfl,⟨hn.1,a1,h1,YE a1 a2 r⟩,hn.2,a2,h2,rfl⟩
theorem Zrj{k:Int}{b:List Int}{f g:Zaf}{r t:List Int}(h1:Fld k b f r)(h2:Fld k b g t):f=g∧r=t:=by
 obtain⟨hf,a,ha,e⟩:=h1
 obtain⟨hg,c,hc,e2⟩:=h2
 exact ZnS hf hg ha hc (e.symm.trans e2)
theorem Zsz{k:Int}{b:List Int}{f:Zaf}{r:List Int}(h:Fld k b f r):b.drop (b.length-r.length)=r∧r.length≤b.length:=by
 obtain⟨_,a,_,rfl⟩:=h
 have e:(a++r).length-r.length=a.length:=by simp
 rw[e];simp
theorem ZpX{ks b:List Int}{fs gs:List Zaf}{r t:List Int}(h1:Flds ks b fs r)(h2:Flds ks b gs t):fs=gs∧r=t:=by
 obtain⟨hf,a,ha,e⟩:=h1
 obtain⟨hg,c,hc,e2⟩:=h2
 exact Zmw hf hg ha hc (e.symm.trans e2)
theorem ZmC(kinds:List Int)(hK:kinds.length≤1000):∀(ks b:List Int) (m i:Nat) (l:List Zaf),kinds.drop i=ks→i+ks.length=kinds.length→(∀k,k∈ks→k=1∨k=3)→Byt b→b.length≤1073741824→ks.length<m→l.length+ks.length≤1000→
 (∃fs r,Flds ks b fs r∧ZaR FF kinds m b (i:Int) l=some (.inr (r,l++fs)))∨((∀fs r,¬Flds ks b fs r)∧∃e,e≠0∧ZaR FF kinds m b (i:Int) l=some (.inl (e,[])))
 | [],b,m,i,l,hd,hi,hk,hb,hL,hm,hl=>by
  obtain⟨m,rfl⟩:∃q,m=q+1:=⟨m-1,by omega⟩
  simp only[Yx]at hi
  refine .inl ⟨[],b,Zri b,?_⟩
  simp only[ZaR]
  rw[show decide ((i:Int)<(kinds.length:Int))=false from Yi (by omega),Y7]
  simp
 |k::ks,b,m,i,l,hd,hi,hk,hb,hL,hm,hl=>by
  obtain⟨m,rfl⟩:∃q,m=q+1:=⟨m-1,by omega⟩
  simp only[Yf]at hi hm hl
  have hf:kinds[i]? =some k:=by
   have:=YM (xs:=kinds) (i:=i) (j:=0)
   rw[hd]at this;simpa using this.symm
  have hd':kinds.drop (i+1)=ks:=by rw[←Va,hd];rfl
  simp only[ZaR]
  rw[show decide ((i:Int)<(kinds.length:Int))=true from Y2 (by omega),Y4,show decide ((0:Int)≤(i:Int))=true from Y2 (by omega),Y4,Int.toNat_natCast,hf]
  simp only[Y0]
  rcases Zoo k (hk k Ys) b hb hL with ⟨f,r,h1,h2⟩|⟨h1,f,s,e,he,h2⟩
  ·obtain⟨hs,hle⟩:=Zsz h1
   rw[h2]
   simp only[Y0,show((0:Int) != (0:Int))=false from rfl,Y7]
   rw[show decide (l.length+1≤LIM)=true from Y2 (by unfold LIM;omega),Y4,show decide ((0:Int)≤((b.length-r.length:Nat):Int))=true from Y2 (by omega),Y4,Int.toNat_natCast,
    show decide (b.length-r.length≤b.length)=true from Y2 (by omega),Y4,show decide (b.length≤b.length)=true from Y2 (by omega),Y4,hs,wi1 _ (by omega)]
   have hbr:Byt r:=by rw[←hs];exact Byt.drop2 hb _
   rcases ZmC kinds hK ks r m (i+1) (l++[f]) hd' (by omega) (fun k h=>hk k (Yk _ h)) hbr (by omega) (by omega) (by simp;omega)with ⟨fs,t,h3,h4⟩|⟨h3,e,he,h4⟩
   ·exact .inl ⟨f::fs,t,ZpY h1 h3,by rw[h4];simp⟩
   ·refine .inr ⟨fun gs t h=>?_,e,he,h4⟩
    obtain⟨g,gs',t',rfl,q1,q2⟩:=Zkg h
    obtain⟨-,rfl⟩:=Zrj h1 q1
    exact h3 _ _ q2
  ·rw[h2]
   simp only[Y0,show(e != (0:Int))=true by simpa using he,Y4]
   refine .inr ⟨fun gs t h=>?_,e,he,rfl⟩
   obtain⟨g,gs',t',rfl,q1,q2⟩:=Zkg h
   exact h1 _ _ q1
theorem Zm7(ks b:List Int)(hK:ks.length≤1000)(hk:∀k,k∈ks→k=1∨k=3)(hb:Byt b)(hL:b.length≤1073741824):
 (∃fs,Flds ks b fs []∧Zbi FF ks b=some (0,fs))∨((∀fs,¬Flds ks b fs [])∧∃e,e≠0∧Zbi FF ks b=some (e,[])):=by
 unfold Zbi
 rcases ZmC ks hK ks b FF 0 [] (by simp) (by simp) hk hb hL (by rw[show FF=1048577+1+(FF-1048578)from by decide];omega) (by simpa using hK)with ⟨fs,r,h1,h2⟩|⟨h1,e,he,h2⟩
 ·rw[show((0:Nat):Int)=0 from rfl]at h2
  rw[h2];simp only[Y0,Sum.elim_inr,YO]
  cases r with
  |nil=>exact .inl ⟨fs,h1,by simp⟩
  |cons y r=>
   refine .inr ⟨fun gs h=>?_,21,by decide,?_⟩
   ·obtain⟨-,h⟩:=ZpX h1 h;cases h
   ·rw[show decide ((0:Int)<((y::r).length:Int))=true from Y2 (by simp),Y4]
 ·rw[show((0:Nat):Int)=0 from rfl]at h2
  rw[h2]
  exact .inr ⟨fun gs h=>h1 _ _ h,e,he,rfl⟩
set_option maxRecDepth 20000
theorem Zl2(k n:Nat):Byt (putN k n):=by
 induction k generalizing n with
 |zero=>intro y hy;simp[putN]at hy;omega
 |succ k ih=>
  unfold putN;split
  ·intro y hy;simp at hy;omega
  ·intro y hy
   rcases Yj.1 hy with rfl|hy
   ·omega
   ·exact ih _ y hy
theorem Byt.append2{a b:List Int}(ha:Byt a)(hb:Byt b):Byt (a++b):=fun y hy=>by
 rcases Yy.1 hy with h|h
 ·exact ha y h
 ·exact hb y h
theorem ZiS:∀{l:List Zaf} {b:List Int},encFs l=some b→Byt b
 | [],b,h=>by simp[encFs]at h;subst h;intro y hy;cases hy
 |f::r,b,h=>by
  simp only[encFs]at h
  cases h1:encF1 f with
  |none=>rw[h1]at h;cases h
  |some a=>
   rw[h1]at h
   cases h2:encFs r with
   |none=>rw[h2]at h;cases h
   |some c=>
    rw[h2]at h;simp only[Yq,Y1]at h;subst h
    refine Byt.append2 ?_ (ZiS h2)
    unfold encF1 at h1;split at h1
    ·split at h1
     ·injection h1 with h1;subst h1;exact Zl2 _ _
     ·cases h1
    ·split at h1
     ·injection h1 with h1;subst h1;exact Byt.append2 (Zl2 _ _) (Znb _)
     ·cases h1
theorem Zgd{n:Int}(h:n<9223372036854775808):okF (Zaf.mk 1 n []):=.inl ⟨rfl,h⟩
theorem ZjI(s:List UInt8):okF (Zaf.mk 3 0 s):=.inr rfl
def OkFs(k:Nat)(l:List Zaf):Prop:=l.length≤k∧∀f,f∈l→okF f
theorem OkFs.add{k:Nat}{l:List Zaf}{f:Zaf}(h:OkFs k l)(hf:okF f):OkFs (k+1) (l++[f]):=⟨by have:=h.1;simp;omega,fun g hg=>by
 rcases Yy.1 hg with q|q
 ·exact h.2 g q
 ·simp only[YB]at q;subst q;exact hf⟩
theorem ZqC(m:Zac)(h:MB m):Tot (ZgI FF m) fun _=>True:=by
 obtain⟨h1,h2,h3,h4,h5,h6,h7,h8⟩:=h
 unfold ZgI Zc9 Zf1
 refine tT (fun _=>.ret trivial) fun hn=>tB (Q:=fun y=>y<2) (tC (fun _=>.ret (by decide)) fun _=>.ret (by decide)) fun y _ hy=>?_
 simp only[Y0,Ya]
 have h0:OkFs 9 [Zaf.mk 1 m.Kind [],Zaf.mk 1 m.From [],Zaf.mk 1 m.To [],Zaf.mk 1 m.Term [],Zaf.mk 1 m.Index [],Zaf.mk 1 m.LogTerm [],Zaf.mk 1 m.Commit [],Zaf.mk 1 y [],Zaf.mk 1 (m.Entries.length:Int) []]:=by
  refine⟨by simp,fun f hf=>?_⟩
  simp only[Yj,WL,or_false]at hf
  rcases hf with rfl|rfl|rfl|rfl|rfl|rfl|rfl|rfl|rfl
  all_goals exact Zgd (by omega)
 refine tB (Q:=OkFs 263) ?_ fun l _ hl=>?_
 ·have:=loopT (fun n (s:Nat×List Zaf)=>ZeC FF m n (s.1:Int) s.2) (fun s=>s.1≤m.Entries.length∧OkFs (9+2*s.1) s.2) (fun s=>m.Entries.length-s.1) (OkFs 263) (by
   rintro n ⟨i,l⟩ ⟨g1,g2⟩ k;simp only at g1 g2 k⊢;simp only[ZeC,Zc9,Zf1,Y0]
   refine tT (fun a=>?_) fun _=>.ret ⟨by have:=g2.1;omega,g2.2⟩
   have gl:=g2.1
   refine tG (by omega) (tE (by simp;omega) fun e _ he=>tG (by unfold LIM;omega) ?_)
   rw[w1 (by omega),show l++[Zaf.mk 1 e.Term [],Zaf.mk 3 0 e.Data]=(l++[Zaf.mk 1 e.Term []])++[Zaf.mk 3 0 e.Data] by simp]
   exact k (i+1,_) ⟨by simp only;omega,(g2.add (Zgd (h8 e he))).add (ZjI _)⟩ (by simp only;omega)) FF (0,_) ⟨Yv _,h0⟩ (by simp only[FF];omega)
  exact this
 ·have hl2:=(hl.add (ZjI m.Data))
  have hl1:=hl.1
  refine tG (by unfold LIM;omega) (tO (Zki _ hl2.2 (by have:=hl2.1;omega)) ?_)
  cases hb:encFs (l++[Zaf.mk 3 0 m.Data])with
  |none=>exact .ret trivial
  |some b=>
   simp only[bne_self_eq_false,Y7,Zip (ZiS hb),Y4];exact .ret trivial
end Go.T
