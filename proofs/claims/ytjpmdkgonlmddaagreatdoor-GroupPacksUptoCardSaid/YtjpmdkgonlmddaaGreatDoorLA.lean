import Derived.Test.YtjpmdkgonlmddaaGreatDoorSem
set_option linter.defProp false
set_option linter.unusedVariables false
set_option linter.unusedSimpArgs false
namespace Go.T
open Go Go.Ab
def JL(k:Nat)(h:k<10):(UInt8.ofNat (48+k)).toNat=48+k:=by
 simp[VY];omega
def ZmK(u:Nat)(hu:u<1000000000000000000)(t:aj):Lib.parseUint10 0 (Lib.decDigits u++t)=Lib.parseUint10 u t:=by
 induction u using Nat.strongRecOn generalizing t with
 |_ u ih=>
  by_cases h:u<10
  ·rw[Lib.decDigits_one h];simp only[YC,YQ,Lib.parseUint10,JL u h];rw[if_pos (by omega),if_neg (by omega),if_neg (by omega)]
   congr 1;omega
  ·have e:Lib.decDigits u=Lib.decDigits (u/10)++[UInt8.ofNat (48+u% 10)]:=by
    rw[Lib.decDigits,dif_neg h]
   rw[e,Yo,ih (u/10) (by omega) (by omega)]
   simp only[YC,YQ,Lib.parseUint10,JL (u% 10) (by omega)]
   rw[if_pos (by omega),if_neg (by omega),if_neg (by omega)]
   congr 1;omega
def Pn(u:Nat):Lib.decDigits u≠[]:=by
 rw[Lib.decDigits];split<;>simp
def Zlf(u:Nat):∀c,(Lib.decDigits u).head? =some c→48≤c.toNat∧c.toNat≤57:=by
 induction u using Nat.strongRecOn with
 |_ u ih=>
  intro c i;by_cases h:u<10
  ·rw[Lib.decDigits_one h]at i;simp only[List.head?_cons,Y5]at i;subst i;rw[JL u h];omega
  ·have e:Lib.decDigits u=Lib.decDigits (u/10)++[UInt8.ofNat (48+u% 10)]:=by
    rw[Lib.decDigits,dif_neg h]
   rw[e]at i;refine ih (u/10) (by omega) c ?_
   cases hd:Lib.decDigits (u/10)with
   |nil=>exact absurd hd (Pn _)
   |cons x r=>rw[hd]at i;simpa using i
def EI(u:Nat):Lib.itoa (u:Int)=Lib.decDigits u:=by unfold Lib.itoa;rw[if_neg (by omega)];simp
def JX(u:Nat)(o:u<1000000000000000000):Lib.atoiAll (Lib.itoa (u:Int))=.ok (u:Int):=by
 rw[EI];have i:=ZmK u o [];rw[YI]at i;cases hd:Lib.decDigits u with
 |nil=>exact absurd hd (Pn u)
 |cons c r=>
  have hc:=Zlf u c (by rw[hd];rfl)
  rw[hd]at i;have j:Lib.parseMag (c::r)=.ok u:=by
   unfold Lib.parseMag;rw[if_neg (List.cons_ne_nil c r),i];rfl
  simp only[Lib.atoiAll];rw[if_neg (by omega),j]
  simp only;rw[if_neg (by omega),if_neg (by omega),if_neg (by omega)]
def PM(p x:aj):Lib.hasPrefix (p++x) p=true:=by
 unfold Lib.hasPrefix;exact List.isPrefixOf_iff_prefix.2 (WD p x)
def Zjy(p x:aj):Lib.trimPrefix (p++x) p=x:=by
 unfold Lib.trimPrefix;rw[PM];simp
def O3(u k:Nat)(h:u<10^(k+1)):(Lib.decDigits u).length≤k+1:=by
 induction k generalizing u with
 |zero=>rw[Lib.decDigits_one (by simpa using h)];simp
 |succ k ih=>
  by_cases i:u<10
  ·rw[Lib.decDigits_one i];simp
  ·rw[Lib.decDigits,dif_neg i,Y8];have:=ih (u/10) (by rw[VZ]at h;omega)
   simp;omega
def Zpl(n:Nat)(h1:1≤n)(h2:n≤999999999):kb (db++Lib.itoa (n:Int))=n:=by
 unfold kb;rw[Zjy,JX n (by omega)]
 simp only;have:=O3 n 8 (by omega)
 rw[if_pos];exact⟨PM _ _,by rw[EI];exact this,by omega,trivial⟩
def OM{s:aj}(h:kb s≠0):∃n:Nat,kb s=n∧1≤n∧n≤999999999∧s=db++Lib.itoa (n:Int):=by
 unfold kb at h⊢;cases ha:Lib.atoiAll (Lib.trimPrefix s db)with
 |ok n=>
  rw[ha]at h;simp only at h⊢;split at h
  ·rename_i z;obtain⟨h1,p,y,o⟩:=z;obtain⟨k,rfl⟩:∃k:Nat,n=k:=⟨n.toNat,by omega⟩
   have x:s=db++Lib.itoa (k:Int):=by
    rw[o];unfold Lib.trimPrefix;rw[h1];unfold Lib.hasPrefix at h1;obtain⟨t,rfl⟩:=List.isPrefixOf_iff_prefix.1 h1;simp
   refine⟨k,by rw[if_pos ⟨h1,p,y,o⟩],by omega,?_,x⟩
   rw[←o,EI,Lib.decDigits_length]at p;refine V5 λ hn=>?_;have i:∀(k u:Nat),10^k≤u→k+1≤Lib.nDigits u:=by
    intro k;induction k with
    |zero=>intro u _;rw[Lib.nDigits];split<;>omega
    |succ k ih=>
     intro u q;rw[VZ]at q;have j:¬u<10:=by have:=Nat.pow_pos (n:=k) (show 0<10 by decide);omega
     rw[Lib.nDigits_big j];have:=ih (u/10) (by omega)
     omega
   have:=i 9 k (by omega)
   omega
  ·exact absurd rfl h
 |_=>rw[ha]at h;exact absurd rfl h
def EV{a b:Nat}(i:a<1000000000000000000)(j:b<1000000000000000000)(h:Lib.itoa (a:Int)=Lib.itoa (b:Int)):a=b:=by
 have h1:=JX a i;rw[h,JX b j]at h1;injection h1 with h1;omega
def CJ(l:List aj):(gV l).Perm l:=List.mergeSort_perm _ _
def OU(l:aa):(fc l).Perm l:=List.mergeSort_perm _ _
def wr(k:IntKind)(i:k.signed=false)(n:Nat)(h:n<2^k.bits):k.wrap (n:Int)=n:=by
 simp only[IntKind.wrap,i];have:((n:Int)% (2^k.bits:Int))=n:=Int.emod_eq_of_lt (by omega) (by exact_mod_cast h)
 simpa using this
def B3(k:IntKind)(o:k.signed=false)(a b:Nat)(i:a<2^k.bits)(j:b<2^k.bits):cC .or k (a:Int) (b:Int)=((a|||b:Nat):Int):=by
 unfold cC;simp only[BitVec.ofInt_natCast,BitVec.toNat_or,BitVec.toNat_ofNat,WE i,WE j];exact wr k o _ (Nat.or_lt_two_pow i j)
def Xw(k:IntKind)(j:k.signed=false)(a b:Nat)(o:a<2^k.bits)(i:b<2^k.bits):cC .and k (a:Int) (b:Int)=((a&&& b:Nat):Int):=by
 unfold cC;simp only[BitVec.ofInt_natCast,BitVec.toNat_and,BitVec.toNat_ofNat,WE o,WE i];exact wr k j _ (Nat.and_lt_two_pow _ i)
def TB(op:BinOp)(k:IntKind)(i:k.signed=false)(a b:Int):∃n:Nat,cC op k a b=n∧n<2^k.bits:=by
 unfold cC;exact⟨_,wr k i _ (BitVec.isLt _),BitVec.isLt _⟩
def Tv(b:aa):∃n:Nat,kR b=n∧n<4294967296:=TB .xor .u32 rfl _ _
set_option maxRecDepth 20000 in
def TP(a:Nat)(h:a<256):a|||128=a% 128+128:=by
 have:∀a:Fin 256,a.val|||128=a.val% 128+128:=by decide
 exact this ⟨a,h⟩
set_option maxRecDepth 20000 in
def Tc(a:Nat)(h:a<256):a&&& 127=a% 128:=by
 have:∀a:Fin 256,a.val&&& 127=a.val% 128:=by decide
 exact this ⟨a,h⟩
def Ew(a b k:Nat)(h:a<2^k):a|||(b*2^k)=a+b*2^k:=by
 rw[Nat.or_comm,Nat.mul_comm,Nat.add_comm,Nat.two_pow_add_eq_or_of_lt h]
abbrev FF:Nat:=4000000
def eL:Nat→Nat→aa
 |0,n=>[((n% 256:Nat):Int)]
 |k+1,n=>if n<128 then [(n:Int)]else((n% 128+128:Nat):Int)::eL k (n/128)
def bH(n:Nat):aa:=eL 9 n
def qg(k n:Nat):1≤(eL k n).length∧(eL k n).length≤k+1:=by
 induction k generalizing n with
 |zero=>simp[eL]
 |succ k ih=>
  unfold eL;split
  ·simp
  ·have:=ih (n/128);simp;omega
def TQ(k:Nat):∀(n m:Nat) (l:aa),n<128^(k+1)→n<18446744073709551616→k<m→l.length+k+1≤bI→
 ∃(j:Nat) (t:aa),wF FF m (n:Int) l=some ((j:Int),l++t)∧j<128∧t++[(j:Int)]=eL k n∧t.length≤k:=by
 induction k with
 |zero=>
  intro n m l h _ i u;obtain⟨m,rfl⟩:∃q,m=q+1:=⟨m-1,by omega⟩
  refine⟨n,[],?_,by simpa using h,?_,by simp⟩
  ·simp only[wF];rw[show decide ((128:Int)≤(n:Int))=false from Ye (by simp at h;omega)]
   simp
  ·simp at h;simp[eL,WE (show n<256 by omega)]
 |succ k ih=>
  intro n m l h y i u;obtain⟨m,rfl⟩:∃q,m=q+1:=⟨m-1,by omega⟩
  by_cases hn:n<128
  ·refine⟨n,[],?_,hn,by simp[eL,hn],by simp⟩
   simp only[wF];rw[show decide ((128:Int)≤(n:Int))=false from Ye (by omega)]
   simp
  ·have x:cC BinOp.or IntKind.u8 (IntKind.wrap IntKind.u8 (n:Int)) (128:Int)=((n% 128+128:Nat):Int):=by
    rw[show IntKind.wrap IntKind.u8 (n:Int)=((n% 256:Nat):Int) by rw[Vi];omega]
    have:=B3 .u8 rfl (n% 256) 128 (by show _<256;omega) (by decide)
    rw[TP _ (by omega)]at this
    rw[show(128:Int)=((128:Nat):Int)from rfl,this]
    congr 2;omega
   have hd:Int.fdiv (n:Int) ((2:Int)^(min (Int.toNat 7) 64))=((n/128:Nat):Int):=by
    show Int.fdiv (n:Int) 128=_;rw[WB _ (by omega)];omega
   obtain⟨j,t,h1,p,o,h4⟩:=ih (n/128) m (l++[((n% 128+128:Nat):Int)]) (by rw[VZ]at h;omega) (by omega) (by omega) (by simp;omega)
   refine⟨j,((n% 128+128:Nat):Int)::t,?_,p,?_,by simp;omega⟩
   ·simp only[wF];rw[show decide ((128:Int)≤(n:Int))=true from Y2 (by omega),Y4,show decide (l.length+1≤bI)=true from Y2 (by omega),Y4,x,hd]
    rw[h1];simp
   ·rw[YC,o,eL,if_neg hn]
def Ey(n:Nat)(h:n<18446744073709551616)(l:aa)(hl:l.length+11≤bI):wA FF (n:Int) l=some (l++bH n):=by
 obtain⟨j,t,h1,h2,i,h4⟩:=TQ 9 n FF l (by simp;omega) h (by decide) (by omega)
 unfold wA;rw[h1];simp only[Y1];rw[show decide ((l++t).length+1≤bI)=true from Y2 (by simp;omega),Y4]
 rw[show IntKind.wrap IntKind.u8 (j:Int)=(j:Int) by rw[Vi];omega]
 rw[Yo,i];rfl
def dw(b:aa):Prop:=∀y∈b,0≤y∧y≤255
def acc(x y i:Nat):Nat:=x|||((y% 128*2^(7*i))% 18446744073709551616)
def ED(x y i:Nat)(h:x<18446744073709551616):acc x y i<18446744073709551616:=
 Nat.or_lt_two_pow (n:=64) h (Nat.mod_lt _ (by decide))
def TZ(x y i:Nat)(p:x<18446744073709551616)(j:y<256)(hi:i≤9):
 (@cC BinOp.or IntKind.u64 (x:Int) (IntKind.wrap IntKind.u64 ((IntKind.wrap IntKind.u64 (@cC BinOp.and IntKind.u8 (y:Int) (127:Int)))*((2:Int)^(min (Int.toNat (IntKind.wrap IntKind.i64 ((7:Int)*(i:Int)))) 64)))))=(acc x y i:Nat):=by
 have h1:cC BinOp.and IntKind.u8 (y:Int) (127:Int)=((y% 128:Nat):Int):=by
  rw[show(127:Int)=((127:Nat):Int)from rfl,Xw .u8 rfl y 127 j (by decide),Tc y j]
 have q:IntKind.wrap IntKind.i64 ((7:Int)*(i:Int))=((7*i:Nat):Int):=by rw[YF];omega
 rw[h1,q,Yf,show min (7*i) 64=7*i by omega]
 rw[show IntKind.wrap IntKind.u64 ((y% 128:Nat):Int)=((y% 128:Nat):Int)from wr .u64 rfl _ (by show _<18446744073709551616;omega)]
 have o:IntKind.wrap IntKind.u64 (((y% 128:Nat):Int)*(2:Int)^(7*i))=(((y% 128*2^(7*i))% 18446744073709551616:Nat):Int):=by
  rw[show(((y% 128:Nat):Int)*(2:Int)^(7*i))=((y% 128*2^(7*i):Nat):Int) by push_cast;rfl]
  rw[VO];omega
 rw[o];exact B3 .u64 rfl _ _ p (Nat.mod_lt _ (by decide))
def E'(b:aa)(m i:Nat)(x:Int)(h:b.length≤i):nM FF b (m+1) x (i:Int)=some (.inr ()):=by
 simp only[nM];rw[show decide ((i:Int)<(b.length:Int))=false from Ye (by omega),Y7]
def uT(b:aa)(m i x y:Nat)(h:b[i]? =some (y:Int))(u:x<18446744073709551616)(E:y<256)(C:i≤9):
 nM FF b (m+1) (x:Int) (i:Int)=
  if(i=9∧1<y)∨(0<i∧y=0)then some (.inl (0,0,21))
  else if y<128 then some (.inl ((acc x y i:Nat),((i+1:Nat):Int),0))
  else nM FF b m ((acc x y i:Nat):Int) ((i+1:Nat):Int):=by
 have q:i<b.length:=(Ys.1 h).1;simp only[nM];rw[show decide ((i:Int)<(b.length:Int))=true from Y2 (by omega),Y4,
  show decide ((0:Int)≤(i:Int))=true from Y2 (by omega),Y4,Yf,h]
 simp only[Y1];rw[TZ x y i u E C];have p:IntKind.wrap IntKind.i64 ((i:Int)+1)=((i+1:Nat):Int):=by rw[YF];omega
 rw[p];have A:IntKind.wrap IntKind.i64 ((7:Int)*(i:Int))=((7*i:Nat):Int):=by rw[YF];omega
 rw[A,show decide ((0:Int)≤((7*i:Nat):Int))=true from Y2 (by omega),Y4]
 by_cases z:i=9
 ·subst z;by_cases h1:1<y
  ·rw[if_pos (.inl ⟨rfl,h1⟩)];rw[show decide ((1:Int)<(y:Int))=true from Y2 (by omega)];rfl
  ·by_cases h0:y=0
   ·subst h0;rfl
   ·rw[if_neg (by omega),if_pos (by omega)]
    have:y=1:=by omega
    subst this;simp
 ·have B:((i:Int)==9)=false:=by simp;omega
  rw[B,Y7];by_cases h0:0<i
  ·rw[show decide ((0:Int)<(i:Int))=true from Y2 (by omega),Y4]
   simp only[Y1];by_cases o:y=0
   ·subst o;rw[if_pos (.inr ⟨h0,rfl⟩)];rfl
   ·rw[if_neg (by omega),show((y:Int)==0)=false by simp;omega,Y7]
    by_cases j:y<128
    ·rw[show decide ((y:Int)<128)=true from Y2 (by omega),if_pos j];rfl
    ·rw[show decide ((y:Int)<128)=false from Ye (by omega),if_neg j];rfl
  ·rw[show decide ((0:Int)<(i:Int))=false from Ye (by omega),Y7]
   simp only[Y1,Y7];rw[if_neg (by omega)]
   by_cases j:y<128
   ·rw[show decide ((y:Int)<128)=true from Y2 (by omega),if_pos j];rfl
   ·rw[show decide ((y:Int)<128)=false from Ye (by omega),if_neg j];rfl
def EE{b:aa}(j:dw b){i:Nat}(h:i<b.length):∃y:Nat,b[i]? =some (y:Int)∧y<256:=by
 have:=j b[i] (Wz h);exact⟨b[i].toNat,by rw[Y3 h];congr 1;omega,by omega⟩
def ZV(b:aa)(C:dw b):∀(k i x m:Nat),i+k=9→k<m→x<18446744073709551616→
 (∃v s:Nat,nM FF b m (x:Int) (i:Int)=some (.inl ((v:Int),(s:Int),0))∧v<18446744073709551616∧i<s∧s≤10∧s≤b.length∧
  ∀t,nM FF (b++t) m (x:Int) (i:Int)=some (.inl ((v:Int),(s:Int),0)))∨
 nM FF b m (x:Int) (i:Int)=some (.inl (0,0,21))∨nM FF b m (x:Int) (i:Int)=some (.inr ()):=by
 intro k;induction k with
 |zero=>
  intro i x m O E u;obtain⟨m,rfl⟩:∃q,m=q+1:=⟨m-1,by omega⟩
  by_cases z:i<b.length
  ·obtain⟨y,A,o⟩:=EE C z;have h1:=uT b m i x y A u o (by omega)
   have B:∀t,_:=λ t=>uT (b++t) m i x y (by rw[Yt z];exact A) u o (by omega)
   by_cases p:(i=9∧1<y)∨(0<i∧y=0)
   ·rw[if_pos p]at h1;exact .inr (.inl h1)
   ·have j:y<128:=by omega
    refine .inl ⟨acc x y i,i+1,by rw[h1,if_neg p,if_pos j],ED _ _ _ u,by omega,by omega,by omega,λ t=>by rw[B,if_neg p,if_pos j]⟩
  ·exact .inr (.inr (E' b m i x (by omega)))
 |succ k ih=>
  intro i x m O E u;obtain⟨m,rfl⟩:∃q,m=q+1:=⟨m-1,by omega⟩
  by_cases z:i<b.length
  ·obtain⟨y,A,o⟩:=EE C z;have h1:=uT b m i x y A u o (by omega)
   have B:∀t,_:=λ t=>uT (b++t) m i x y (by rw[Yt z];exact A) u o (by omega)
   by_cases p:(i=9∧1<y)∨(0<i∧y=0)
   ·rw[if_pos p]at h1;exact .inr (.inl h1)
   ·by_cases j:y<128
    ·exact .inl ⟨acc x y i,i+1,by rw[h1,if_neg p,if_pos j],ED _ _ _ u,by omega,by omega,by omega,λ t=>by rw[B,if_neg p,if_pos j]⟩
    ·rw[if_neg p,if_neg j]at h1;rcases ih (i+1) (acc x y i) m (by omega) (by omega) (ED _ _ _ u)with ⟨v,s,e,F,g2,M,H,J⟩|e|e
     ·exact .inl ⟨v,s,h1.trans e,F,by omega,M,H,λ t=>by rw[B,if_neg p,if_neg j];exact J t⟩
     ·exact .inr (.inl (h1.trans e))
     ·exact .inr (.inr (h1.trans e))
  ·exact .inr (.inr (E' b m i x (by omega)))
def Nk(b:aa)(q:dw b):(∃v s:Nat,v<18446744073709551616∧0<s∧s≤10∧s≤b.length∧∀t,mG FF (b++t)=some ((v:Int),(s:Int),0))∨
 (∃e,e≠0∧mG FF b=some (0,0,e)):=by
 rcases ZV b q 9 0 0 FF rfl (by decide) (by decide)with ⟨v,s,e,i,u,p,j,o⟩|e|e
 ·refine .inl ⟨v,s,i,u,p,j,λ t=>?_⟩;unfold mG
  have:=o t;simp only[Vp]at this;rw[this];rfl
 ·refine .inr ⟨21,by decide,?_⟩
  unfold mG;simp only[Vp]at e;rw[e];rfl
 ·refine .inr ⟨20,by decide,?_⟩
  unfold mG;simp only[Vp]at e;rw[e];rfl
def I9(x y i:Nat)(o:x<2^(7*i))(j:y% 128*2^(7*i)<18446744073709551616):acc x y i=x+y% 128*2^(7*i):=by
 unfold acc;rw[WE j,Ew _ _ _ o]
def ZpY:∀(k i x n m:Nat) (b t:aa),i+k=9→k<m→x<2^(7*i)→n*2^(7*i)<18446744073709551616→(0<i→0<n)→b.drop i=eL k n++t→
 nM FF b m (x:Int) (i:Int)=some (.inl (((x+n*2^(7*i):Nat):Int),((i+(eL k n).length:Nat):Int),0)):=by
 intro k;induction k with
 |zero=>
  intro i x n m b t O J C hn h0 hd;obtain⟨m,rfl⟩:∃q,m=q+1:=⟨m-1,by omega⟩
  obtain rfl:i=9:=by omega
  have M:n<2:=by omega
  have E:n=1:=by have:=h0 (by decide);omega
  subst E;have B:b[9]? =some ((1:Nat):Int):=by
   have:=YU (λ l=>l[0]?) hd;simpa[YP,eL]using this
  rw[uT b m 9 x 1 B (by omega) (by decide) (by decide),if_neg (by omega),if_pos (by decide),I9 x 1 9 C (by decide)]
  rfl
 |succ k ih=>
  intro i x n m b t O J C hn h0 hd;obtain⟨m,rfl⟩:∃q,m=q+1:=⟨m-1,by omega⟩
  have hp:0<2^(7*i):=Nat.pow_pos (by decide)
  have A:x<18446744073709551616:=by
   have:2^(7*i)≤2^63:=Nat.pow_le_pow_right (by decide) (by omega)
   omega
  by_cases o:n<128
  ·have u:eL (k+1) n=[(n:Int)]:=by simp[eL,o]
   rw[u]at hd⊢;have B:b[i]? =some (n:Int):=by
    have:=YU (λ l=>l[0]?) hd;simpa[YP]using this
   have j:n% 128=n:=WE o;rw[uT b m i x n B A (by omega) (by omega),if_neg (by omega),if_pos o,I9 x n i C (by rw[j];exact hn),j]
   rfl
  ·have u:eL (k+1) n=((n% 128+128:Nat):Int)::eL k (n/128):=by rw[eL,if_neg o]
   rw[u]at hd⊢;have B:b[i]? =some ((n% 128+128:Nat):Int):=by
    have:=YU (λ l=>l[0]?) hd;simpa[YP]using this
   have F:b.drop (i+1)=eL k (n/128)++t:=by
    have:=YU (List.drop 1) hd;simpa[WX]using this
   have j:(n% 128+128)% 128=n% 128:=by omega
   have Q:n% 128*2^(7*i)≤n*2^(7*i):=YK _ (Nat.mod_le _ _);have y:2^(7*(i+1))=128*2^(7*i):=by rw[Nat.mul_add,Nat.pow_add,Nat.mul_comm]
   have z:n*2^(7*i)=n% 128*2^(7*i)+n/128*2^(7*(i+1)):=by
    rw[y,←Nat.mul_assoc,←Wg];congr 1;omega
   have p:=I9 x (n% 128+128) i C (by rw[j];omega)
   rw[j]at p;have H:n% 128*2^(7*i)≤127*2^(7*i):=YK _ (by omega)
   rw[uT b m i x (n% 128+128) B A (by omega) (by omega),if_neg (by omega),if_neg (by omega),p,
    ih (i+1) (x+n% 128*2^(7*i)) (n/128) m b t (by omega) (by omega) (by omega) (by omega) (λ _=>by omega) F]
   rw[Yh,z];congr 4<;>omega
def Cm(n:Nat)(h:n<18446744073709551616)(t:aa):mG FF (bH n++t)=some ((n:Int),((bH n).length:Int),0):=by
 have:=ZpY 9 0 0 n FF (bH n++t) t rfl (by decide) (by decide) (by simpa using h) (by omega) rfl
 unfold mG;simp only[Vp,Wf,Nat.mul_zero,Nat.pow_zero,Nat.mul_one]at this;rw[this];rfl
def nv(b:aa):Nat:=(kR b).toNat
def Mr(b:aa):kR b=(nv b:Int)∧nv b<4294967296:=by
 obtain⟨n,h,i⟩:=Tv b;unfold nv;rw[h];exact⟨by simp,by simpa using i⟩
def mU(n:Nat):aa:=[((n% 256:Nat):Int),((n/256% 256:Nat):Int),((n/65536% 256:Nat):Int),((n/16777216% 256:Nat):Int)]
def dd(b:aa):aa:=(bH b.length++b)++mU (nv (bH b.length++b))
def Xy(b:aa)(h:b.length≤65536):zu FF b=some (0,dd b):=by
 have i:=qg 9 b.length;unfold zu;rw[show decide ((65536:Int)<(b.length:Int))=false from Ye (by omega),Y7,Ya,
  show IntKind.wrap IntKind.u64 (b.length:Int)=(b.length:Int) by rw[VO];omega,Ey b.length (by omega) [] (by simp[bI])]
 simp only[Y1,YQ];have hl:(bH b.length).length≤10:=i.2;rw[show decide ((bH b.length).length+b.length≤bI)=true from Y2 (by simp only[bI];omega),Y4]
 simp only[CM,Y1,F2];rw[show decide ((bH b.length++b).length≤bI)=true from Y2 (by simp only[bI,Y8];omega),Y4]
 simp only[Y1];rw[show decide ((bH b.length++b).length+4≤bI)=true from Y2 (by simp only[bI,Y8];omega),Y4]
 obtain⟨h1,j⟩:=Mr (bH b.length++b);rw[h1];unfold dd mU;generalize nv (bH b.length++b)=n at j⊢;have e0:IntKind.wrap IntKind.u8 (n:Int)=((n% 256:Nat):Int):=by rw[Vi];omega
 have e1:IntKind.wrap IntKind.u8 (Int.fdiv (n:Int) ((2:Int)^min (Int.toNat 8) 32))=((n/256% 256:Nat):Int):=by
  rw[Vi,show((2:Int)^min (Int.toNat 8) 32)=256 from rfl,WB _ (by omega)];omega
 have o:IntKind.wrap IntKind.u8 (Int.fdiv (n:Int) ((2:Int)^min (Int.toNat 16) 32))=((n/65536% 256:Nat):Int):=by
  rw[Vi,show((2:Int)^min (Int.toNat 16) 32)=65536 from rfl,WB _ (by omega)];omega
 have p:IntKind.wrap IntKind.u8 (Int.fdiv (n:Int) ((2:Int)^min (Int.toNat 24) 32))=((n/16777216% 256:Nat):Int):=by
  rw[Vi,show((2:Int)^min (Int.toNat 24) 32)=16777216 from rfl,WB _ (by omega)];omega
 rw[e0,e1,o,p]
def pJ(a b c d:Int):Int:=(@cC BinOp.or IntKind.u32 (@cC BinOp.or IntKind.u32 (@cC BinOp.or IntKind.u32 (IntKind.wrap IntKind.u32 a) (IntKind.wrap IntKind.u32 ((IntKind.wrap IntKind.u32 b)*((2:Int)^(min (Int.toNat (8:Int)) 32))))) (IntKind.wrap IntKind.u32 ((IntKind.wrap IntKind.u32 c)*((2:Int)^(min (Int.toNat (16:Int)) 32))))) (IntKind.wrap IntKind.u32 ((IntKind.wrap IntKind.u32 d)*((2:Int)^(min (Int.toNat (24:Int)) 32)))))
def Px(b:aa)(v s:Nat)(hs:s≤10)(hv:v<18446744073709551616)(hl:b.length≤bI)(q:mG FF b=some ((v:Int),(s:Int),0)):
 px FF b=
  if 65536<v then some ([],0,21)
  else if b.length<s+v+4 then some ([],0,20)
  else if kR (b.take (s+v))=pJ (b[s+v]?.getD 0) (b[s+v+1]?.getD 0) (b[s+v+2]?.getD 0) (b[s+v+3]?.getD 0)then some ((b.take (s+v)).drop s,((s+v+4:Nat):Int),0)
  else some ([],0,22):=by
 unfold px;rw[q];simp only[Y1];rw[show((0:Int) != 0)=false from rfl,Y7]
 by_cases h1:65536<v
 ·rw[if_pos h1,show decide ((65536:Int)<(v:Int))=true from Y2 (by omega),Y4]
 ·rw[if_neg h1,show decide ((65536:Int)<(v:Int))=false from Ye (by omega),Y7]
  have w1:IntKind.wrap IntKind.i64 (v:Int)=(v:Int):=by rw[YF];omega
  have j:∀n:Nat,n<1000000→IntKind.wrap IntKind.i64 (n:Int)=(n:Int):=λ n hn=>by rw[YF];omega
  rw[w1,show(s:Int)+(v:Int)=((s+v:Nat):Int) by omega,j (s+v) (by omega)]
  have B:((s+v:Nat):Int)+4=((s+v+4:Nat):Int):=by omega
  have u:((s+v:Nat):Int)+1=((s+v+1:Nat):Int):=by omega
  have z:((s+v:Nat):Int)+2=((s+v+2:Nat):Int):=by omega
  have A:((s+v:Nat):Int)+3=((s+v+3:Nat):Int):=by omega
  rw[B,u,z,A,j _ (by omega),j _ (by omega),j _ (by omega),j _ (by omega)]
  by_cases p:b.length<s+v+4
  ·rw[if_pos p,show decide ((b.length:Int)<((s+v+4:Nat):Int))=true from Y2 (by omega),Y4]
  ·rw[if_neg p,show decide ((b.length:Int)<((s+v+4:Nat):Int))=false from Ye (by omega),Y7]
   have g:∀n:Nat,decide ((0:Int)≤(n:Int))=true:=λ n=>Y2 (by omega)
   have o:∀n<b.length,b[n]? =some (b[n]?.getD 0):=λ n hn=>by rw[Y3 hn];rfl
   simp only[g,Y4,Yf];rw[o (s+v) (by omega),o (s+v+1) (by omega),o (s+v+2) (by omega),o (s+v+3) (by omega)]
   simp only[Y1,CM,YJ];rw[show decide (0≤s+v)=true from Y2 (by omega),show decide (s+v≤b.length)=true from Y2 (by omega),show decide (s≤s+v)=true from Y2 (by omega)]
   simp only[Y4,Fy];rw[show decide ((b.take (s+v)).length≤bI)=true from Y2 (by simp;omega),Y4]
   simp only[Y1];by_cases i:kR (b.take (s+v))=pJ (b[s+v]?.getD 0) (b[s+v+1]?.getD 0) (b[s+v+2]?.getD 0) (b[s+v+3]?.getD 0)
   ·rw[if_pos i];unfold pJ at i;rw[←i,show(kR (b.take (s+v)) != kR (b.take (s+v)))=false by simp,Y7]
    unfold Dp;rw[show decide ((List.drop s (b.take (s+v))).length≤bI)=true from Y2 (by simp;omega),Y4]
    rfl
   ·rw[if_neg i];unfold pJ at i;rw[show∀x y:Int,x≠y→(x != y)=true from λ x y h=>by simpa using h]
    ·rfl
    ·exact i
def dw.left{a b:aa}(h:dw (a++b)):dw a:=λ y i=>h y (Vl _ i)
def dw.append{a b:aa}(h:dw a)(j:dw b):dw (a++b):=λ y i=>(YA.1 i).elim (h y) (j y)
def dw.take{a:aa}(h:dw a)(n:Nat):dw (a.take n):=λ y i=>h y (YZ i)
def dw.drop{a:aa}(h:dw a)(n:Nat):dw (a.drop n):=λ y i=>h y (Wq i)
def Znx(b:aa)(u:dw b)(B:b.length≤bI):
 (∃(r:aa) (n:Nat),0<n∧n≤b.length∧r.length≤65536∧dw r∧∀t,(b++t).length≤bI→px FF (b++t)=some (r,(n:Int),0))∨
 (∃e,e≠0∧px FF b=some ([],0,e)):=by
 rcases Nk b u with ⟨v,s,h1,q,z,h4,y⟩|⟨e,h1,q⟩
 ·have i:∀t,(b++t).length≤bI→_:=λ t o=>Px (b++t) v s z h1 o (y t);have h0:=i [] (by simpa using B)
  rw[YI]at h0;by_cases c1:65536<v
  ·rw[if_pos c1]at h0;exact .inr ⟨21,by decide,h0⟩
  ·rw[if_neg c1]at h0;by_cases x:b.length<s+v+4
   ·rw[if_pos x]at h0;exact .inr ⟨20,by decide,h0⟩
   ·rw[if_neg x]at h0;have p:∀t,(b++t).take (s+v)=b.take (s+v):=λ t=>W4 (by omega)
    have j:∀t n,n<b.length→(b++t)[n]? =b[n]? :=λ t n hn=>Yt hn;split at h0
    ·rename_i A;refine .inl ⟨(b.take (s+v)).drop s,s+v+4,by omega,by omega,by simp;omega,(u.take _).drop _,λ t o=>?_⟩
     rw[i t o,if_neg c1,if_neg (by rw[Y8];omega),p,j t (s+v) (by omega),j t (s+v+1) (by omega),j t (s+v+2) (by omega),j t (s+v+3) (by omega),if_pos A]
    ·exact .inr ⟨22,by decide,h0⟩
 ·refine .inr ⟨e,h1,?_⟩;unfold px;rw[q];simp only[Y1];rw[show(e != 0)=true by simpa using h1,Y4]
def ZT(n:Nat)(h:n<4294967296):pJ ((n% 256:Nat):Int) ((n/256% 256:Nat):Int) ((n/65536% 256:Nat):Int) ((n/16777216% 256:Nat):Int)=n:=by
 unfold pJ;have w:∀m:Nat,m<4294967296→IntKind.wrap IntKind.u32 (m:Int)=(m:Int):=λ m i=>wr .u32 rfl m i;rw[w (n% 256) (by omega),w (n/256% 256) (by omega),w (n/65536% 256) (by omega),w (n/16777216% 256) (by omega)]
 rw[show((2:Int)^(min (Int.toNat (8:Int)) 32))=((2^8:Nat):Int)from rfl,show((2:Int)^(min (Int.toNat (16:Int)) 32))=((2^16:Nat):Int)from rfl,
  show((2:Int)^(min (Int.toNat (24:Int)) 32))=((2^24:Nat):Int)from rfl,←Uj,←Uj,←Uj]
 rw[w _ (by omega),w _ (by omega),w _ (by omega)]
 rw[B3 .u32 rfl _ _ (by show _<4294967296;omega) (by show _<4294967296;omega),Ew _ _ 8 (by omega),
  B3 .u32 rfl _ _ (by show _<4294967296;omega) (by show _<4294967296;omega),Ew _ _ 16 (by omega),
  B3 .u32 rfl _ _ (by show _<4294967296;omega) (by show _<4294967296;omega),Ew _ _ 24 (by omega)]
 congr 1;omega
def tn(r:aa):(dd r).length=(bH r.length).length+r.length+4:=by
 unfold dd mU;simp;omega
def ZlP(r t:aa)(hr:r.length≤65536)(y:(dd r++t).length≤bI):px FF (dd r++t)=some (r,((dd r).length:Int),0):=by
 have x:=qg 9 r.length;have q:(bH r.length).length≤10:=x.2;have e:dd r++t=bH r.length++(r++(mU (nv (bH r.length++r))++t)):=by unfold dd;simp
 have u:mG FF (dd r++t)=some (((r.length:Nat):Int),((bH r.length).length:Int),0):=by rw[e];exact Cm r.length (by omega) _
 rw[Px _ r.length (bH r.length).length q (by omega) y u,if_neg (by omega),if_neg (by rw[Y8,tn];omega)]
 obtain⟨c1,z⟩:=Mr (bH r.length++r);have p:dd r++t=(bH r.length++r)++(mU (nv (bH r.length++r))++t):=by unfold dd;simp
 have o:(dd r++t).take ((bH r.length).length+r.length)=bH r.length++r:=by
  rw[p,W4 (by simp),Yk (by simp)]
 have i:∀j,(dd r++t)[(bH r.length).length+r.length+j]? =(mU (nv (bH r.length++r))++t)[j]? :=by
  intro j;rw[p,Yl (by simp),Y8]
  congr 1;omega
 have h0:=i 0;rw[WC]at h0;rw[if_pos]
 ·rw[o];simp[tn]
 ·rw[o,h0,i 1,i 2,i 3];simp only[mU,YC,Yv,Va,YJ];rw[ZT _ z,c1]
def cI(n:Nat):((n:Int)).toNat=n:=by omega
def Zpy(k:Nat)(h:k<9223372036854775808):sx FF [cA.mk 1 (k:Int) []]=some (0,bH k):=by
 have e:sB FF [cA.mk 1 (k:Int) []] (3999998+1+1) 0 []=some (.inr (bH k)):=by
  have i:=Ey k (by omega) [] (by simp[bI])
  have j:IntKind.wrap IntKind.u64 (k:Int)=(k:Int):=by rw[VO];omega
  have hd:decide ((0:Int)≤(k:Int))=true:=by simp
  rw[YQ]at i;unfold sB;simp only[Yh,Yx,Wf,VU,show decide ((0:Int)<1)=true from rfl,Y4,show decide ((0:Int)≤0)=true from rfl,
   show Int.toNat 0=0 from rfl,Yv,Y1,show((1:Int)==1)=true from rfl,hd,j,i,YG]
  unfold sB;simp only[Yh,Yx,Wf,VU,show IntKind.wrap IntKind.i64 ((0:Int)+1)=1 from by rw[YF];rfl,show decide ((1:Int)<1)=false from rfl,Y7]
 unfold sx;rw[show sB FF [cA.mk 1 (k:Int) []] FF 0 []=_ from e]
 rfl
def Oz(b:aa)(v s:Nat)(h:mG FF b=some ((v:Int),(s:Int),0))(hv:v<18446744073709551616):
 pw FF 1 b=some (if v<9223372036854775808 then(cA.mk 1 (v:Int) [],(s:Int),0)else(cA.mk 1 0 [],0,21)):=by
 unfold pw;simp only[show((1:Int) != 1)=false from rfl,Y7,Y1,h,show((0:Int) != 0)=false from rfl,show((1:Int)==1)=true from rfl,Y4]
 by_cases i:v<9223372036854775808
 ·have:((Int.fdiv (v:Int) ((2:Int)^(min (Int.toNat (63:Int)) 64))) != 0)=false:=by
   rw[show((2:Int)^(min (Int.toNat (63:Int)) 64))=((9223372036854775808:Nat):Int)from rfl,WB _ (by omega)]
   rw[show((v:Int)/((9223372036854775808:Nat):Int))=0 by omega];rfl
  rw[this,Y7,if_pos i,show IntKind.wrap IntKind.i64 (v:Int)=v by rw[YF];omega]
  rfl
 ·have:((Int.fdiv (v:Int) ((2:Int)^(min (Int.toNat (63:Int)) 64))) != 0)=true:=by
   rw[show((2:Int)^(min (Int.toNat (63:Int)) 64))=((9223372036854775808:Nat):Int)from rfl,WB _ (by omega)]
   rw[show((v:Int)/((9223372036854775808:Nat):Int))=1 by omega];rfl
  rw[this,Y4,if_neg i];rfl
def Zs(b:aa)(e:Int)(i:e≠0)(h:mG FF b=some (0,0,e)):pw FF 1 b=some (cA.mk 1 0 [],0,e):=by
 unfold pw;simp only[show((1:Int) != 1)=false from rfl,Y7,Y1,h]
 rw[show((e != 0)=true)from by simpa using i,Y4]
def N0(b:aa)(f:cA)(s:Nat)(h:pw FF 1 b=some (f,(s:Int),0))(i:s≤b.length):
 lL FF [1] b=some (if s<b.length then(21,[])else(0,[f])):=by
 have e:nD FF [1] (3999998+1+1) b 0 []=some (.inr (b.drop s,[f])):=by
  unfold nD;simp only[Yh,Yx,Wf,VU,show decide ((0:Int)<1)=true from rfl,Y4,show decide ((0:Int)≤0)=true from rfl,
   show Int.toNat 0=0 from rfl,Yv,Y1,h,show((0:Int) != 0)=false from rfl,Y7,show decide (1≤bI)=true from rfl,
   show decide ((0:Int)≤(s:Int))=true from by simp,cI,Y2 i,Yg,decide_true]
  unfold nD;simp only[Yh,Yx,Wf,VU,show IntKind.wrap IntKind.i64 ((0:Int)+1)=1 from by rw[YF];rfl,show decide ((1:Int)<1)=false from rfl,Y7,YQ]
 unfold lL;rw[show nD FF [1] FF b 0 []=_ from e]
 simp only[Y1,YG,Yw];by_cases q:s<b.length
 ·rw[Y2 (by omega:(0:Int)<((b.length-s:Nat):Int)),Y4,if_pos q]
 ·rw[Ye (by omega:¬(0:Int)<((b.length-s:Nat):Int)),Y7,if_neg q]
def O1(b:aa)(f:cA)(s e:Int)(j:e≠0)(h:pw FF 1 b=some (f,s,e)):lL FF [1] b=some (e,[]):=by
 have i:nD FF [1] (3999999+1) b 0 []=some (.inl (e,[])):=by
  unfold nD;simp only[Yh,Yx,Wf,VU,show decide ((0:Int)<1)=true from rfl,Y4,show decide ((0:Int)≤0)=true from rfl,
   show Int.toNat 0=0 from rfl,Yv,Y1,h]
  rw[show((e != 0)=true)from by simpa using j,Y4]
 unfold lL;rw[show nD FF [1] FF b 0 []=_ from i]
 rfl
def ZpD(b:aa)(x:dw b):(∃N:Nat,lL FF [1] b=some (0,[cA.mk 1 (N:Int) []]))∨(∃e,e≠0∧lL FF [1] b=some (e,[])):=by
 rcases Nk b x with ⟨v,s,h1,o,h3,y,u⟩|⟨e,h1,o⟩
 ·have j:=u [];rw[YI]at j;have i:=Oz b v s j h1;by_cases q:v<9223372036854775808
  ·rw[if_pos q]at i;have:=N0 b _ s i y;by_cases p:s<b.length
   ·rw[if_pos p]at this;exact .inr ⟨_,by decide,this⟩
   ·rw[if_neg p]at this;exact .inl ⟨_,this⟩
  ·rw[if_neg q]at i;exact .inr ⟨_,by decide,O1 b _ _ _ (by decide) i⟩
 ·exact .inr ⟨e,h1,O1 b _ _ _ h1 (Zs b e h1 o)⟩
def ZpC(k:Nat)(h:k<9223372036854775808):lL FF [1] (bH k)=some (0,[cA.mk 1 (k:Int) []]):=by
 have i:=Cm k (by omega) []
 rw[YI]at i;have j:=Oz _ k _ i (by omega)
 rw[if_pos h]at j;rw[N0 _ _ _ j (Yg _),if_neg (Nat.lt_irrefl _)]
def Fr(b r:aa)(n:Nat):Prop:=0<n∧n≤b.length∧r.length≤65536∧dw r∧∀t,(b++t).length≤bI→px FF (b++t)=some (r,(n:Int),0)
def Un(b:aa):Prop:=∃e,e≠0∧px FF b=some ([],0,e)
inductive Sc:aa→List aa→aa→Prop
 |nil {b:aa}:Un b→Sc b [] b
 |cons {b r:aa} {n:Nat} {rs:List aa} {t:aa}:Fr b r n→Sc (b.drop n) rs t→Sc b (r::rs) t
def eX(rs:List aa):Prop:=∀r∈rs,r.length≤65536∧dw r
def rY(b:aa)(j:dw b)(i:b.length≤bI):(∃r n,Fr b r n)∨Un b:=by
 rcases Znx b j i with ⟨r,n,h⟩|h
 ·exact .inl ⟨r,n,h⟩
 ·exact .inr h
def Fr.one{b r:aa}{n:Nat}(h:Fr b r n)(i:b.length≤bI):px FF b=some (r,(n:Int),0):=by
 have:=h.2.2.2.2 [];rw[YI]at this;exact this i
def EU(r t:aa)(j:r.length≤65536)(o:dw r):Fr (dd r++t) r (dd r).length:=by
 refine⟨by rw[tn];omega,by simp,j,o,λ u i=>?_⟩
 rw[Yo]at i⊢;exact ZlP r (t++u) j i
def dw.nil:dw []:=λ y i=>by cases i
def dw.cons{x:Int}{l:aa}(h1:0≤x∧x≤255)(h:dw l):dw (x::l):=λ y i=>by
 rcases Yr.1 i with rfl|i
 ·exact h1
 ·exact h y i
def Ck(k n:Nat):dw (eL k n):=by
 induction k generalizing n with
 |zero=>exact dw.cons ⟨by omega,by omega⟩ dw.nil
 |succ k ih=>
  unfold eL;split
  ·exact dw.cons ⟨by omega,by omega⟩ dw.nil
  ·exact dw.cons ⟨by omega,by omega⟩ (ih _)
def zG(r:aa)(h:dw r):dw (dd r):=by
 unfold dd mU bH;refine dw.append (dw.append (Ck _ _) h) ?_;exact dw.cons ⟨by omega,by omega⟩ (dw.cons ⟨by omega,by omega⟩ (dw.cons ⟨by omega,by omega⟩ (dw.cons ⟨by omega,by omega⟩ dw.nil)))
def EN(r t:aa)(z:r.length≤65536)(y:dw r)(B:t<+:dd r)(F:t.length<(dd r).length):Un t:=by
 obtain⟨x,j⟩:=B;have E:=qg 9 r.length;have C:(bH r.length).length≤10:=E.2;have q:=tn r;have i:(dd r).length≤bI:=by rw[q];simp only[bI];omega
 have o:dw t:=by
  have:=zG r y;rw[←j]at this;exact this.left
 rcases rY t o (by omega)with ⟨r',n,h⟩|h
 ·have h1:=h.2.2.2.2 x (by rw[j];exact i)
  rw[j]at h1;have u:=(EU r [] z y).one (by simpa using i)
  rw[YI]at u;rw[u]at h1;injection h1 with h1;have A:=YU (λ p=>p.2.1) h1;simp only at A
  have:=h.2.1;omega
 ·exact h
def s9:Un []:=EN [] [] (by simp) dw.nil (Uk) (by rw[tn];simp)
def Sc.len{b t:aa}{rs:List aa}(h:Sc b rs t):rs.length+t.length≤b.length∧t.length≤b.length:=by
 induction h with
 |nil _=>simp
 | @cons b r n rs t hf _ ih=>
  have h1:=hf.1;have h2:=hf.2.1;rw[Yw]at ih;simp only[Yh];omega
def Sc.bZ{b t:aa}{rs:List aa}(h:Sc b rs t):eX rs:=by
 induction h with
 |nil _=>intro r i;cases i
 |cons hf _ ih=>
  intro r i;rcases Yr.1 i with rfl|i
  ·exact⟨hf.2.2.1,hf.2.2.2.1⟩
  ·exact ih r i
def ZM:∀(k:Nat) (b:aa),b.length≤k→dw b→b.length≤bI→∃rs t,Sc b rs t:=by
 intro k;induction k with
 |zero=>
  intro b p i j;have:b=[]:=WR (by omega)
  subst this;exact⟨_,_,.nil s9⟩
 |succ k ih=>
  intro b p i j;rcases rY b i j with ⟨r,n,h⟩|h
  ·have h1:=h.1;obtain⟨rs,t,o⟩:=ih (b.drop n) (by rw[Yw];omega) (i.drop n) (by rw[Yw];omega)
   exact⟨_,_,.cons h o⟩
  ·exact⟨_,_,.nil h⟩
def Zp9(rs:List aa)(h:eX rs)(t:aa)(o:Un t):Sc (rs.flatMap dd++t) rs t:=by
 induction rs with
 |nil=>exact .nil o
 |cons r rs ih=>
  have i:=h r (Yp ..);rw[U6,Yo];refine .cons (EU r _ i.1 i.2) ?_;rw[List.drop_left];exact ih (λ q j=>h q (Yn _ j))
def Sc.more{b t:aa}{rs:List aa}(h:Sc b rs t)(i:t=[])(r:aa)(o:r.length≤65536)(q:dw r):Sc (b++dd r) (rs++[r]) []:=by
 induction h with
 |nil _=>
  subst i;have:=EU r [] o q;rw[YI]at this;rw[YQ];refine .cons this ?_;rw[Vq];exact .nil s9
 | @cons b r' n rs t hf _ ih=>
  have p:=hf.2.1;refine .cons (n:=n) ⟨hf.1,by rw[Y8];omega,hf.2.2.1,hf.2.2.2.1,λ u j=>?_⟩ ?_
  ·rw[Yo]at j⊢;exact hf.2.2.2.2 _ j
  ·rw[VE p];exact ih i
def dc(n:Nat):decide ((0:Int)≤(n:Int))=true:=by simp
def I5(b:aa)(N:Int)(hL:b.length≤1048576):∀(rs:List aa) (t:aa) (size m:Nat) (l:List aa),Sc (b.drop size) rs t→size≤b.length→rs.length<m→l.length+rs.length≤1048576→
 xY FF b (0,[cA.mk 1 N []]) m (size:Int) l=some (((b.length-t.length:Nat):Int),decide (N≤((l.length+rs.length:Nat):Int)),l++rs):=by
 intro rs;induction rs with
 |nil=>
  intro t size m l i j p q;cases i with
  |nil hu=>
   obtain⟨e,u,o⟩:=hu;obtain⟨m,rfl⟩:∃k,m=k+1:=⟨m-1,by omega⟩
   unfold xY;rw[dc,Y4,cI,Y2 j,Y4,Y2 (Yg _),Y4,o,Y1];simp only;rw[show((e != 0)=true)from by simpa using u,Y4]
   simp only[show Int.toNat 0=0 from rfl,Yv,Y1,Ya,YI,Yx,WC,Yw]
   rw[show b.length-(b.length-size)=size by omega]
 |cons r rs ih=>
  intro t size m l i j p q;cases i with
  | @cons _ _ n _ _ hf i=>
   have h1:=hf.1;have x:=hf.2.1;rw[Yw]at x;obtain⟨m,rfl⟩:∃k,m=k+1:=⟨m-1,by omega⟩
   have o:=hf.one (by rw[Yw];simp only[bI];omega)
   rw[WX]at i;simp only[Yh]at p q;unfold xY;rw[dc,Y4,cI,Y2 j,Y4,Y2 (Yg _),Y4,o,Y1];simp only[show((0:Int) != 0)=false from rfl,Y7]
   rw[Y2 (by simp only[bI];omega),Y4,show IntKind.wrap IntKind.i64 ((size:Int)+(n:Int))=((size+n:Nat):Int) by rw[YF];omega]
   rw[ih t (size+n) m (l++[r]) i (by omega) (by omega) (by rw[Y8,W9];omega)]
   simp only[Y8,Yx,Yh,Yo,V1];rw[show l.length+(0+1)+rs.length=l.length+(rs.length+1) by omega]
def Zpc(b:aa)(J:dw b)(Q:b.length≤1048576):∃(size:Nat) (whole:Bool) (rs:List aa),nA FF b=some ((size:Int),whole,rs)∧size≤b.length∧eX rs∧rs.length≤b.length∧
 (whole=true→size=b.length→∀r,r.length≤65536→dw r→(b++dd r).length≤1048576→nA FF (b++dd r)=some (((b++dd r).length:Int),true,rs++[r])):=by
 have i:b.length≤bI:=by simp only[bI];omega
 rcases rY b J i with ⟨h,n,p⟩|⟨e,C,y⟩
 ·have y:=p.one i;have h1:=p.1;have H:=p.2.1;rcases ZpD h p.2.2.2.1 with ⟨N,hd⟩|⟨e,C,hd⟩
  ·obtain⟨rs,t,x⟩:=ZM _ (b.drop n) (Yg _) (J.drop n) (by rw[Yw];omega)
   have u:=x.len;rw[Yw]at u;refine⟨b.length-t.length,decide ((N:Int)≤((0+rs.length:Nat):Int)),rs,?_,by omega,x.bZ,by omega,?_⟩
   ·unfold nA;rw[y,Y1];simp only[show((0:Int) != 0)=false from rfl,Y7,hd,Y1]
    rw[I5 b N Q rs t n FF [] x H (by show _<4000000;omega) (by simp;omega)]
    simp
   ·intro z O r o A F;have M:t=[]:=WR (by omega)
    have j:=x.more M r o A;rw[←VE H]at j;have B:=p.2.2.2.2 (dd r) (by simp only[bI];omega)
    unfold nA;rw[B,Y1];simp only[show((0:Int) != 0)=false from rfl,Y7,hd,Y1]
    have E:=j.len;rw[Yw]at E;rw[I5 (b++dd r) N F (rs++[r]) [] n FF [] j (by rw[Y8];omega) (by show _<4000000;omega) (by simp only[Yx];omega)]
    simp only[Yx,Nat.sub_zero,YQ,Y8,W9,Wf]at z⊢;have z:=YM z;rw[Y2 (by omega)]
  ·refine⟨0,false,[],?_,by omega,(λ r o=>by cases o),by simp,(λ q=>by cases q)⟩
   unfold nA;rw[y,Y1];simp only[show((0:Int) != 0)=false from rfl,Y7,hd,Y1]
   rw[show((e != 0)=true)from by simpa using C,Y4];rfl
 ·refine⟨0,false,[],?_,by omega,(λ r o=>by cases o),by simp,(λ q=>by cases q)⟩
  unfold nA;rw[y,Y1];simp only;rw[show((e != 0)=true)from by simpa using C,Y4];rfl
def cd(k:Nat)(rs:List aa)(t:aa):aa:=dd (bH k)++(rs.flatMap dd++t)
def JD(k:Nat)(rs:List aa)(t:aa)(u:k<9223372036854775808)(q:eX rs)(p:Un t)(y:(cd k rs t).length≤1048576):
 nA FF (cd k rs t)=some ((((cd k rs t).length-t.length:Nat):Int),decide (k≤rs.length),rs):=by
 have A:=qg 9 k;have z:(bH k).length≤10:=A.2;have o:=EU (bH k) (rs.flatMap dd++t) (by omega) (Ck _ _)
 have x:=o.one (by show(cd k rs t).length≤bI;simp only[bI];omega)
 have j:Sc ((cd k rs t).drop (dd (bH k)).length) rs t:=by
  unfold cd;rw[List.drop_left];exact Zp9 rs q t p
 have i:=j.len;rw[Yw]at i;unfold nA;rw[show px FF (cd k rs t)=_ from x,Y1]
 simp only[show((0:Int) != 0)=false from rfl,Y7,ZpC k u,Y1]
 rw[I5 (cd k rs t) k y rs t (dd (bH k)).length FF [] j o.2.1 (by show _<4000000;omega) (by simp only[Yx];omega)]
 simp
end Go.T
