import Derived.Test.YtjpmdkgonlmddaaGreatDoorSem
set_option linter.unusedVariables false
set_option linter.unusedSimpArgs false
namespace Go.T
open Go Go.Ab
theorem Hq(k:Nat)(h:k<10):(UInt8.ofNat (48+k)).toNat=48+k:=by
 simp[UInt8.toNat_ofNat'];omega
theorem UU(u:Nat)(hu:u<1000000000000000000)(t:List UInt8):Lib.parseUint10 0 (Lib.decDigits u++t)=Lib.parseUint10 u t:=by
 induction u using Nat.strongRecOn generalizing t with
 |_ u ih=>
  by_cases h:u<10
  ·rw[Lib.decDigits_one h]
   simp only[YJ,YL,Lib.parseUint10,Hq u h]
   rw[if_pos (by omega),if_neg (by omega),if_neg (by omega)]
   congr 1;omega
  ·have e:Lib.decDigits u=Lib.decDigits (u/10)++[UInt8.ofNat (48+u% 10)]:=by
    rw[Lib.decDigits,dif_neg h]
   rw[e,Yq,ih (u/10) (by omega) (by omega)]
   simp only[YJ,YL,Lib.parseUint10,Hq (u% 10) (by omega)]
   rw[if_pos (by omega),if_neg (by omega),if_neg (by omega)]
   congr 1;omega
theorem Mj(u:Nat):Lib.decDigits u≠[]:=by
 rw[Lib.decDigits];split<;>simp
theorem U0(u:Nat):∀c,(Lib.decDigits u).head? =some c→48≤c.toNat∧c.toNat≤57:=by
 induction u using Nat.strongRecOn with
 |_ u ih=>
  intro c hc
  by_cases h:u<10
  ·rw[Lib.decDigits_one h]at hc
   simp only[List.head?_cons,Y2]at hc
   subst hc;rw[Hq u h];omega
  ·have e:Lib.decDigits u=Lib.decDigits (u/10)++[UInt8.ofNat (48+u% 10)]:=by
    rw[Lib.decDigits,dif_neg h]
   rw[e]at hc
   refine ih (u/10) (by omega) c ?_
   cases hd:Lib.decDigits (u/10)with
   |nil=>exact absurd hd (Mj _)
   |cons x r=>rw[hd]at hc;simpa using hc
theorem Df(u:Nat):Lib.itoa (u:Int)=Lib.decDigits u:=by unfold Lib.itoa;rw[if_neg (by omega)];simp
theorem Hl(u:Nat)(hu:u<1000000000000000000):Lib.atoiAll (Lib.itoa (u:Int))=.ok (u:Int):=by
 rw[Df]
 have hp:=UU u hu []
 rw[YE]at hp
 cases hd:Lib.decDigits u with
 |nil=>exact absurd hd (Mj u)
 |cons c r=>
  have hc:=U0 u c (by rw[hd];rfl)
  rw[hd]at hp
  have hm:Lib.parseMag (c::r)=.ok u:=by
   unfold Lib.parseMag;rw[if_neg (List.cons_ne_nil c r),hp];rfl
  simp only[Lib.atoiAll]
  rw[if_neg (by omega),hm]
  simp only
  rw[if_neg (by omega),if_neg (by omega),if_neg (by omega)]
theorem MK(p x:List UInt8):Lib.hasPrefix (p++x) p=true:=by
 unfold Lib.hasPrefix;exact List.isPrefixOf_iff_prefix.2 (WU p x)
theorem VN(p x:List UInt8):Lib.trimPrefix (p++x) p=x:=by
 unfold Lib.trimPrefix;rw[MK];simp
theorem LI(u k:Nat)(h:u<10^(k+1)):(Lib.decDigits u).length≤k+1:=by
 induction k generalizing u with
 |zero=>rw[Lib.decDigits_one (by simpa using h)];simp
 |succ k ih=>
  by_cases rA:u<10
  ·rw[Lib.decDigits_one rA];simp
  ·rw[Lib.decDigits,dif_neg rA,Ya]
   have:=ih (u/10) (by rw[Nat.pow_succ]at h;omega)
   simp;omega
theorem Tq(n:Nat)(h1:1≤n)(h2:n≤999999999):jz (cv++Lib.itoa (n:Int))=n:=by
 unfold jz
 rw[VN,Hl n (by omega)]
 simp only
 have:=LI n 8 (by omega)
 rw[if_pos]
 exact⟨MK _ _,by rw[Df];exact this,by omega,trivial⟩
theorem Mh{s:List UInt8}(h:jz s≠0):∃n:Nat,jz s=n∧1≤n∧n≤999999999∧s=cv++Lib.itoa (n:Int):=by
 unfold jz at h⊢
 cases ha:Lib.atoiAll (Lib.trimPrefix s cv)with
 |ok n=>
  rw[ha]at h;simp only at h⊢;split at h
  ·rename_i hc
   obtain⟨h1,h2,h3,h4⟩:=hc
   obtain⟨k,rfl⟩:∃k:Nat,n=k:=⟨n.toNat,by omega⟩
   have hs:s=cv++Lib.itoa (k:Int):=by
    rw[h4];unfold Lib.trimPrefix;rw[h1];unfold Lib.hasPrefix at h1
    obtain⟨t,rfl⟩:=List.isPrefixOf_iff_prefix.1 h1
    simp
   refine⟨k,by rw[if_pos ⟨h1,h2,h3,h4⟩],by omega,?_,hs⟩
   rw[←h4,Df,Lib.decDigits_length]at h2
   refine Classical.byContradiction fun hn=>?_
   have FV:∀(k u:Nat),10^k≤u→k+1≤Lib.nDigits u:=by
    intro k
    induction k with
    |zero=>intro u _;rw[Lib.nDigits];split<;>omega
    |succ k ih=>
     intro u hu;rw[Nat.pow_succ]at hu
     have rA:¬u<10:=by have:=Nat.pow_pos (n:=k) (show 0<10 by decide);omega
     rw[Lib.nDigits_big rA]
     have:=ih (u/10) (by omega)
     omega
   have:=FV 9 k (by omega)
   omega
  ·exact absurd rfl h
 |_=>rw[ha]at h;exact absurd rfl h
theorem Dm{a b:Nat}(ha:a<1000000000000000000)(hb:b<1000000000000000000)(h:Lib.itoa (a:Int)=Lib.itoa (b:Int)):a=b:=by
 have h1:=Hl a ha
 rw[h,Hl b hb]at h1
 injection h1 with h1
 omega
theorem Bf(l:List (List UInt8)):(fY l).Perm l:=List.mergeSort_perm _ _
theorem L6(l:List Int):(eD l).Perm l:=List.mergeSort_perm _ _
theorem wr(k:IntKind)(hk:k.signed=false)(n:Nat)(h:n<2^k.bits):k.wrap (n:Int)=n:=by
 simp only[IntKind.wrap,hk]
 have:((n:Int)% (2^k.bits:Int))=n:=Int.emod_eq_of_lt (by omega) (by exact_mod_cast h)
 simpa using this
theorem AE(k:IntKind)(hk:k.signed=false)(a b:Nat)(ha:a<2^k.bits)(hb:b<2^k.bits):bU .or k (a:Int) (b:Int)=((a|||b:Nat):Int):=by
 unfold bU;simp only[BitVec.ofInt_natCast,BitVec.toNat_or,BitVec.toNat_ofNat,Wf ha,Wf hb];exact wr k hk _ (Nat.or_lt_two_pow ha hb)
theorem QF(k:IntKind)(hk:k.signed=false)(a b:Nat)(ha:a<2^k.bits)(hb:b<2^k.bits):bU .and k (a:Int) (b:Int)=((a&&& b:Nat):Int):=by
 unfold bU;simp only[BitVec.ofInt_natCast,BitVec.toNat_and,BitVec.toNat_ofNat,Wf ha,Wf hb];exact wr k hk _ (Nat.and_lt_two_pow _ hb)
theorem PA(op:BinOp)(k:IntKind)(hk:k.signed=false)(a b:Int):∃n:Nat,bU op k a b=n∧n<2^k.bits:=by
 unfold bU;exact⟨_,wr k hk _ (BitVec.isLt _),BitVec.isLt _⟩
theorem Pu(b:List Int):∃n:Nat,ke b=n∧n<4294967296:=PA .xor .u32 rfl _ _
set_option maxRecDepth 20000 in
theorem PL(a:Nat)(h:a<256):a|||128=a% 128+128:=by
 have:∀a:Fin 256,a.val|||128=a.val% 128+128:=by decide
 exact this ⟨a,h⟩
set_option maxRecDepth 20000 in
theorem Qn(a:Nat)(h:a<256):a&&& 127=a% 128:=by
 have:∀a:Fin 256,a.val&&& 127=a.val% 128:=by decide
 exact this ⟨a,h⟩
theorem C4(a b k:Nat)(h:a<2^k):a|||(b*2^k)=a+b*2^k:=by
 rw[Nat.or_comm,Nat.mul_comm,Nat.add_comm,Nat.two_pow_add_eq_or_of_lt h]
abbrev FF:Nat:=4000000
def ef:Nat→Nat→List Int
 |0,n=>[((n% 256:Nat):Int)]
 |k+1,n=>if n<128 then [(n:Int)]else((n% 128+128:Nat):Int)::ef k (n/128)
def bJ(n:Nat):List Int:=ef 9 n
theorem oZ(k n:Nat):1≤(ef k n).length∧(ef k n).length≤k+1:=by
 induction k generalizing n with
 |zero=>simp[ef]
 |succ k ih=>
  unfold ef;split
  ·simp
  ·have:=ih (n/128);simp;omega
theorem PM(k:Nat):∀(n m:Nat) (l:List Int),n<128^(k+1)→n<18446744073709551616→k<m→l.length+k+1≤bm→
 ∃(j:Nat) (t:List Int),uI FF m (n:Int) l=some ((j:Int),l++t)∧j<128∧t++[(j:Int)]=ef k n∧t.length≤k:=by
 induction k with
 |zero=>
  intro n m l h _ hm hl
  obtain⟨m,rfl⟩:∃q,m=q+1:=⟨m-1,by omega⟩
  refine⟨n,[],?_,by simpa using h,?_,by simp⟩
  ·simp only[uI]
   rw[show decide ((128:Int)≤(n:Int))=false from Ym (by simp at h;omega)]
   simp
  ·simp at h;simp[ef,Wf (show n<256 by omega)]
 |succ k ih=>
  intro n m l h CM hm hl
  obtain⟨m,rfl⟩:∃q,m=q+1:=⟨m-1,by omega⟩
  by_cases hn:n<128
  ·refine⟨n,[],?_,hn,by simp[ef,hn],by simp⟩
   simp only[uI]
   rw[show decide ((128:Int)≤(n:Int))=false from Ym (by omega)]
   simp
  ·have hb:bU BinOp.or IntKind.u8 (IntKind.wrap IntKind.u8 (n:Int)) (128:Int)=((n% 128+128:Nat):Int):=by
    rw[show IntKind.wrap IntKind.u8 (n:Int)=((n% 256:Nat):Int) by rw[WK];omega]
    have:=AE .u8 rfl (n% 256) 128 (by show _<256;omega) (by decide)
    rw[PL _ (by omega)]at this
    rw[show(128:Int)=((128:Nat):Int)from rfl,this]
    congr 2;omega
   have hd:Int.fdiv (n:Int) ((2:Int)^(min (Int.toNat 7) 64))=((n/128:Nat):Int):=by
    show Int.fdiv (n:Int) 128=_
    rw[Wd _ (by omega)];omega
   obtain⟨j,t,h1,h2,h3,h4⟩:=ih (n/128) m (l++[((n% 128+128:Nat):Int)]) (by rw[Nat.pow_succ]at h;omega) (by omega) (by omega) (by simp;omega)
   refine⟨j,((n% 128+128:Nat):Int)::t,?_,h2,?_,by simp;omega⟩
   ·simp only[uI]
    rw[show decide ((128:Int)≤(n:Int))=true from Y4 (by omega),Y5,show decide (l.length+1≤bm)=true from Y4 (by omega),Y5,hb,hd]
    rw[h1];simp
   ·rw[YJ,h3,ef,if_neg hn]
theorem CX(n:Nat)(h:n<18446744073709551616)(l:List Int)(hl:l.length+11≤bm):uC FF (n:Int) l=some (l++bJ n):=by
 obtain⟨j,t,h1,h2,h3,h4⟩:=PM 9 n FF l (by simp;omega) h (by decide) (by omega)
 unfold uC;rw[h1];simp only[Y1]
 rw[show decide ((l++t).length+1≤bm)=true from Y4 (by simp;omega),Y5]
 rw[show IntKind.wrap IntKind.u8 (j:Int)=(j:Int) by rw[WK];omega]
 rw[Yq,h3];rfl
def cX(b:List Int):Prop:=∀y,y∈b→0≤y∧y≤255
def acc(x y i:Nat):Nat:=x|||((y% 128*2^(7*i))% 18446744073709551616)
theorem C6(x y i:Nat)(h:x<18446744073709551616):acc x y i<18446744073709551616:=
 Nat.or_lt_two_pow (n:=64) h (Nat.mod_lt _ (by decide))
theorem PW(x y i:Nat)(hx:x<18446744073709551616)(hy:y<256)(hi:i≤9):
 (@bU BinOp.or IntKind.u64 (x:Int) (IntKind.wrap IntKind.u64 ((IntKind.wrap IntKind.u64 (@bU BinOp.and IntKind.u8 (y:Int) (127:Int)))*((2:Int)^(min (Int.toNat (IntKind.wrap IntKind.i64 ((7:Int)*(i:Int)))) 64)))))=(acc x y i:Nat):=by
 have h1:bU BinOp.and IntKind.u8 (y:Int) (127:Int)=((y% 128:Nat):Int):=by
  rw[show(127:Int)=((127:Nat):Int)from rfl,QF .u8 rfl y 127 hy (by decide),Qn y hy]
 have h2:IntKind.wrap IntKind.i64 ((7:Int)*(i:Int))=((7*i:Nat):Int):=by rw[Yz];omega
 rw[h1,h2,Int.toNat_natCast,show min (7*i) 64=7*i by omega]
 rw[show IntKind.wrap IntKind.u64 ((y% 128:Nat):Int)=((y% 128:Nat):Int)from wr .u64 rfl _ (by show _<18446744073709551616;omega)]
 have h3:IntKind.wrap IntKind.u64 (((y% 128:Nat):Int)*(2:Int)^(7*i))=(((y% 128*2^(7*i))% 18446744073709551616:Nat):Int):=by
  rw[show(((y% 128:Nat):Int)*(2:Int)^(7*i))=((y% 128*2^(7*i):Nat):Int) by push_cast;rfl]
  rw[V3];omega
 rw[h3]
 exact AE .u64 rfl _ _ hx (Nat.mod_lt _ (by decide))
theorem Du(b:List Int)(m i:Nat)(x:Int)(h:b.length≤i):mO FF b (m+1) x (i:Int)=some (.inr ()):=by
 simp only[mO]
 rw[show decide ((i:Int)<(b.length:Int))=false from Ym (by omega),Y8]
theorem th(b:List Int)(m i x y:Nat)(h:b[i]? =some (y:Int))(hx:x<18446744073709551616)(hy:y<256)(hi:i≤9):
 mO FF b (m+1) (x:Int) (i:Int)=
  if(i=9∧1<y)∨(0<i∧y=0)then some (.inl (0,0,21))
  else if y<128 then some (.inl ((acc x y i:Nat),((i+1:Nat):Int),0))
  else mO FF b m ((acc x y i:Nat):Int) ((i+1:Nat):Int):=by
 have hlt:i<b.length:=(Wo.1 h).1
 simp only[mO]
 rw[show decide ((i:Int)<(b.length:Int))=true from Y4 (by omega),Y5,
  show decide ((0:Int)≤(i:Int))=true from Y4 (by omega),Y5,Int.toNat_natCast,h]
 simp only[Y1];rw[PW x y i hx hy hi]
 have hw:IntKind.wrap IntKind.i64 ((i:Int)+1)=((i+1:Nat):Int):=by rw[Yz];omega
 rw[hw]
 have h7:IntKind.wrap IntKind.i64 ((7:Int)*(i:Int))=((7*i:Nat):Int):=by rw[Yz];omega
 rw[h7,show decide ((0:Int)≤((7*i:Nat):Int))=true from Y4 (by omega),Y5]
 by_cases h9:i=9
 ·subst h9
  by_cases h1:1<y
  ·rw[if_pos (.inl ⟨rfl,h1⟩)]
   rw[show decide ((1:Int)<(y:Int))=true from Y4 (by omega)];rfl
  ·by_cases h0:y=0
   ·subst h0;rfl
   ·rw[if_neg (by omega),if_pos (by omega)]
    have:y=1:=by omega
    subst this;simp
 ·have e9:((i:Int)==9)=false:=by simp;omega
  rw[e9,Y8]
  by_cases h0:0<i
  ·rw[show decide ((0:Int)<(i:Int))=true from Y4 (by omega),Y5]
   simp only[Y1]
   by_cases oK:y=0
   ·subst oK;rw[if_pos (.inr ⟨h0,rfl⟩)];rfl
   ·rw[if_neg (by omega),show((y:Int)==0)=false by simp;omega,Y8]
    by_cases fJ:y<128
    ·rw[show decide ((y:Int)<128)=true from Y4 (by omega),if_pos fJ];rfl
    ·rw[show decide ((y:Int)<128)=false from Ym (by omega),if_neg fJ];rfl
  ·rw[show decide ((0:Int)<(i:Int))=false from Ym (by omega),Y8]
   simp only[Y1,Y8]
   rw[if_neg (by omega)]
   by_cases fJ:y<128
   ·rw[show decide ((y:Int)<128)=true from Y4 (by omega),if_pos fJ];rfl
   ·rw[show decide ((y:Int)<128)=false from Ym (by omega),if_neg fJ];rfl
theorem Db{b:List Int}(hb:cX b){i:Nat}(h:i<b.length):∃y:Nat,b[i]? =some (y:Int)∧y<256:=by
 have:=hb b[i] (Wb h)
 exact⟨b[i].toNat,by rw[Y3 h];congr 1;omega,by omega⟩
theorem R3(b:List Int)(hb:cX b):∀(k i x m:Nat),i+k=9→k<m→x<18446744073709551616→
 (∃v s:Nat,mO FF b m (x:Int) (i:Int)=some (.inl ((v:Int),(s:Int),0))∧v<18446744073709551616∧i<s∧s≤10∧s≤b.length∧
  ∀t,mO FF (b++t) m (x:Int) (i:Int)=some (.inl ((v:Int),(s:Int),0)))∨
 mO FF b m (x:Int) (i:Int)=some (.inl (0,0,21))∨mO FF b m (x:Int) (i:Int)=some (.inr ()):=by
 intro k
 induction k with
 |zero=>
  intro i x m hi hm hx
  obtain⟨m,rfl⟩:∃q,m=q+1:=⟨m-1,by omega⟩
  by_cases hl:i<b.length
  ·obtain⟨y,hy,hy2⟩:=Db hb hl
   have h1:=th b m i x y hy hx hy2 (by omega)
   have h2:∀t,_:=fun t=>th (b++t) m i x y (by rw[Yt hl];exact hy) hx hy2 (by omega)
   by_cases hc:(i=9∧1<y)∨(0<i∧y=0)
   ·rw[if_pos hc]at h1;exact .inr (.inl h1)
   ·have fJ:y<128:=by omega
    refine .inl ⟨acc x y i,i+1,by rw[h1,if_neg hc,if_pos fJ],C6 _ _ _ hx,by omega,by omega,by omega,fun t=>by rw[h2,if_neg hc,if_pos fJ]⟩
  ·exact .inr (.inr (Du b m i x (by omega)))
 |succ k ih=>
  intro i x m hi hm hx
  obtain⟨m,rfl⟩:∃q,m=q+1:=⟨m-1,by omega⟩
  by_cases hl:i<b.length
  ·obtain⟨y,hy,hy2⟩:=Db hb hl
   have h1:=th b m i x y hy hx hy2 (by omega)
   have h2:∀t,_:=fun t=>th (b++t) m i x y (by rw[Yt hl];exact hy) hx hy2 (by omega)
   by_cases hc:(i=9∧1<y)∨(0<i∧y=0)
   ·rw[if_pos hc]at h1;exact .inr (.inl h1)
   ·by_cases fJ:y<128
    ·exact .inl ⟨acc x y i,i+1,by rw[h1,if_neg hc,if_pos fJ],C6 _ _ _ hx,by omega,by omega,by omega,fun t=>by rw[h2,if_neg hc,if_pos fJ]⟩
    ·rw[if_neg hc,if_neg fJ]at h1
     rcases ih (i+1) (acc x y i) m (by omega) (by omega) (C6 _ _ _ hx)with ⟨v,s,e,g1,g2,g3,g4,g5⟩|e|e
     ·exact .inl ⟨v,s,h1.trans e,g1,by omega,g3,g4,fun t=>by rw[h2,if_neg hc,if_neg fJ];exact g5 t⟩
     ·exact .inr (.inl (h1.trans e))
     ·exact .inr (.inr (h1.trans e))
  ·exact .inr (.inr (Du b m i x (by omega)))
theorem Kw(b:List Int)(hb:cX b):(∃v s:Nat,v<18446744073709551616∧0<s∧s≤10∧s≤b.length∧∀t,lM FF (b++t)=some ((v:Int),(s:Int),0))∨
 (∃e,e≠0∧lM FF b=some (0,0,e)):=by
 rcases R3 b hb 9 0 0 FF rfl (by decide) (by decide)with ⟨v,s,e,g1,g2,g3,g4,g5⟩|e|e
 ·refine .inl ⟨v,s,g1,g2,g3,g4,fun t=>?_⟩
  unfold lM
  have:=g5 t
  simp only[Int.natCast_zero]at this;rw[this];rfl
 ·refine .inr ⟨21,by decide,?_⟩
  unfold lM;simp only[Int.natCast_zero]at e;rw[e];rfl
 ·refine .inr ⟨20,by decide,?_⟩
  unfold lM;simp only[Int.natCast_zero]at e;rw[e];rfl
theorem GJ(x y i:Nat)(hx:x<2^(7*i))(hy:y% 128*2^(7*i)<18446744073709551616):acc x y i=x+y% 128*2^(7*i):=by
 unfold acc;rw[Wf hy,C4 _ _ _ hx]
theorem Ub:∀(k i x n m:Nat) (b t:List Int),i+k=9→k<m→x<2^(7*i)→n*2^(7*i)<18446744073709551616→(0<i→0<n)→b.drop i=ef k n++t→
 mO FF b m (x:Int) (i:Int)=some (.inl (((x+n*2^(7*i):Nat):Int),((i+(ef k n).length:Nat):Int),0)):=by
 intro k
 induction k with
 |zero=>
  intro i x n m b t hi hm hx hn h0 hd
  obtain⟨m,rfl⟩:∃q,m=q+1:=⟨m-1,by omega⟩
  obtain rfl:i=9:=by omega
  have X9:n<2:=by omega
  have Fu:n=1:=by have:=h0 (by decide);omega
  subst Fu
  have hg:b[9]? =some ((1:Nat):Int):=by
   have:=YF (fun l=>l[0]?) hd
   simpa[YR,ef]using this
  rw[th b m 9 x 1 hg (by omega) (by decide) (by decide),if_neg (by omega),if_pos (by decide),GJ x 1 9 hx (by decide)]
  rfl
 |succ k ih=>
  intro i x n m b t hi hm hx hn h0 hd
  obtain⟨m,rfl⟩:∃q,m=q+1:=⟨m-1,by omega⟩
  have hp:0<2^(7*i):=Nat.pow_pos (by decide)
  have IY:x<18446744073709551616:=by
   have:2^(7*i)≤2^63:=Nat.pow_le_pow_right (by decide) (by omega)
   omega
  by_cases fJ:n<128
  ·have Fp:ef (k+1) n=[(n:Int)]:=by simp[ef,fJ]
   rw[Fp]at hd⊢
   have hg:b[i]? =some (n:Int):=by
    have:=YF (fun l=>l[0]?) hd
    simpa[YR]using this
   have mi:n% 128=n:=Wf fJ
   rw[th b m i x n hg IY (by omega) (by omega),if_neg (by omega),if_pos fJ,GJ x n i hx (by rw[mi];exact hn),mi]
   rfl
  ·have Fp:ef (k+1) n=((n% 128+128:Nat):Int)::ef k (n/128):=by rw[ef,if_neg fJ]
   rw[Fp]at hd⊢
   have hg:b[i]? =some ((n% 128+128:Nat):Int):=by
    have:=YF (fun l=>l[0]?) hd
    simpa[YR]using this
   have OQ:b.drop (i+1)=ef k (n/128)++t:=by
    have:=YF (List.drop 1) hd
    simpa[Vg]using this
   have mi:(n% 128+128)% 128=n% 128:=by omega
   have hle:n% 128*2^(7*i)≤n*2^(7*i):=Yr _ (Nat.mod_le _ _)
   have Fo:2^(7*(i+1))=128*2^(7*i):=by rw[Nat.mul_add,Nat.pow_add,Nat.mul_comm]
   have Fc:n*2^(7*i)=n% 128*2^(7*i)+n/128*2^(7*(i+1)):=by
    rw[Fo,←Nat.mul_assoc,←YT];congr 1;omega
   have Ad:=GJ x (n% 128+128) i hx (by rw[mi];omega)
   rw[mi]at Ad
   have Ou:n% 128*2^(7*i)≤127*2^(7*i):=Yr _ (by omega)
   rw[th b m i x (n% 128+128) hg IY (by omega) (by omega),if_neg (by omega),if_neg (by omega),Ad,
    ih (i+1) (x+n% 128*2^(7*i)) (n/128) m b t (by omega) (by omega) (by omega) (by omega) (fun _=>by omega) OQ]
   rw[Ye,Fc]
   congr 4<;>omega
theorem A4(n:Nat)(h:n<18446744073709551616)(t:List Int):lM FF (bJ n++t)=some ((n:Int),((bJ n).length:Int),0):=by
 have:=Ub 9 0 0 n FF (bJ n++t) t rfl (by decide) (by decide) (by simpa using h) (by omega) rfl
 unfold lM;simp only[Int.natCast_zero,YS,Nat.mul_zero,Nat.pow_zero,Nat.mul_one]at this;rw[this];rfl
def mA(b:List Int):Nat:=(ke b).toNat
theorem J0(b:List Int):ke b=(mA b:Int)∧mA b<4294967296:=by
 obtain⟨n,h,h2⟩:=Pu b
 unfold mA;rw[h]
 exact⟨by simp,by simpa using h2⟩
def lY(n:Nat):List Int:=[((n% 256:Nat):Int),((n/256% 256:Nat):Int),((n/65536% 256:Nat):Int),((n/16777216% 256:Nat):Int)]
def cw(b:List Int):List Int:=(bJ b.length++b)++lY (mA (bJ b.length++b))
theorem Q7(b:List Int)(h:b.length≤65536):xT FF b=some (0,cw b):=by
 have hp:=oZ 9 b.length
 unfold xT
 rw[show decide ((65536:Int)<(b.length:Int))=false from Ym (by omega),Y8,Yb,
  show IntKind.wrap IntKind.u64 (b.length:Int)=(b.length:Int) by rw[V3];omega,CX b.length (by omega) [] (by simp[bm])]
 simp only[Y1,YL]
 have hl:(bJ b.length).length≤10:=hp.2
 rw[show decide ((bJ b.length).length+b.length≤bm)=true from Y4 (by simp only[bm];omega),Y5]
 simp only[Bk,Y1,Ej]
 rw[show decide ((bJ b.length++b).length≤bm)=true from Y4 (by simp only[bm,Ya];omega),Y5]
 simp only[Y1]
 rw[show decide ((bJ b.length++b).length+4≤bm)=true from Y4 (by simp only[bm,Ya];omega),Y5]
 obtain⟨h1,h2⟩:=J0 (bJ b.length++b)
 rw[h1];unfold cw lY;generalize mA (bJ b.length++b)=n at h2⊢
 have e0:IntKind.wrap IntKind.u8 (n:Int)=((n% 256:Nat):Int):=by rw[WK];omega
 have e1:IntKind.wrap IntKind.u8 (Int.fdiv (n:Int) ((2:Int)^min (Int.toNat 8) 32))=((n/256% 256:Nat):Int):=by
  rw[WK,show((2:Int)^min (Int.toNat 8) 32)=256 from rfl,Wd _ (by omega)];omega
 have e2:IntKind.wrap IntKind.u8 (Int.fdiv (n:Int) ((2:Int)^min (Int.toNat 16) 32))=((n/65536% 256:Nat):Int):=by
  rw[WK,show((2:Int)^min (Int.toNat 16) 32)=65536 from rfl,Wd _ (by omega)];omega
 have e3:IntKind.wrap IntKind.u8 (Int.fdiv (n:Int) ((2:Int)^min (Int.toNat 24) 32))=((n/16777216% 256:Nat):Int):=by
  rw[WK,show((2:Int)^min (Int.toNat 24) 32)=16777216 from rfl,Wd _ (by omega)];omega
 rw[e0,e1,e2,e3]
def oE(a b c d:Int):Int:=(@bU BinOp.or IntKind.u32 (@bU BinOp.or IntKind.u32 (@bU BinOp.or IntKind.u32 (IntKind.wrap IntKind.u32 a) (IntKind.wrap IntKind.u32 ((IntKind.wrap IntKind.u32 b)*((2:Int)^(min (Int.toNat (8:Int)) 32))))) (IntKind.wrap IntKind.u32 ((IntKind.wrap IntKind.u32 c)*((2:Int)^(min (Int.toNat (16:Int)) 32))))) (IntKind.wrap IntKind.u32 ((IntKind.wrap IntKind.u32 d)*((2:Int)^(min (Int.toNat (24:Int)) 32)))))
theorem Mr(b:List Int)(v s:Nat)(hs:s≤10)(hv:v<18446744073709551616)(hl:b.length≤bm)(ht:lM FF b=some ((v:Int),(s:Int),0)):
 oj FF b=
  if 65536<v then some ([],0,21)
  else if b.length<s+v+4 then some ([],0,20)
  else if ke (b.take (s+v))=oE (b[s+v]?.getD 0) (b[s+v+1]?.getD 0) (b[s+v+2]?.getD 0) (b[s+v+3]?.getD 0)then some ((b.take (s+v)).drop s,((s+v+4:Nat):Int),0)
  else some ([],0,22):=by
 unfold oj;rw[ht];simp only[Y1]
 rw[show((0:Int) != 0)=false from rfl,Y8]
 by_cases h1:65536<v
 ·rw[if_pos h1,show decide ((65536:Int)<(v:Int))=true from Y4 (by omega),Y5]
 ·rw[if_neg h1,show decide ((65536:Int)<(v:Int))=false from Ym (by omega),Y8]
  have w1:IntKind.wrap IntKind.i64 (v:Int)=(v:Int):=by rw[Yz];omega
  have w2:∀n:Nat,n<1000000→IntKind.wrap IntKind.i64 (n:Int)=(n:Int):=fun n hn=>by rw[Yz];omega
  rw[w1,show(s:Int)+(v:Int)=((s+v:Nat):Int) by omega,w2 (s+v) (by omega)]
  have a1:((s+v:Nat):Int)+4=((s+v+4:Nat):Int):=by omega
  have a2:((s+v:Nat):Int)+1=((s+v+1:Nat):Int):=by omega
  have a3:((s+v:Nat):Int)+2=((s+v+2:Nat):Int):=by omega
  have a4:((s+v:Nat):Int)+3=((s+v+3:Nat):Int):=by omega
  rw[a1,a2,a3,a4,w2 _ (by omega),w2 _ (by omega),w2 _ (by omega),w2 _ (by omega)]
  by_cases h2:b.length<s+v+4
  ·rw[if_pos h2,show decide ((b.length:Int)<((s+v+4:Nat):Int))=true from Y4 (by omega),Y5]
  ·rw[if_neg h2,show decide ((b.length:Int)<((s+v+4:Nat):Int))=false from Ym (by omega),Y8]
   have g:∀n:Nat,decide ((0:Int)≤(n:Int))=true:=fun n=>Y4 (by omega)
   have gt:∀n,n<b.length→b[n]? =some (b[n]?.getD 0):=fun n hn=>by rw[Y3 hn];rfl
   simp only[g,Y5,Int.toNat_natCast]
   rw[gt (s+v) (by omega),gt (s+v+1) (by omega),gt (s+v+2) (by omega),gt (s+v+3) (by omega)]
   simp only[Y1,Bk,Yv]
   rw[show decide (0≤s+v)=true from Y4 (by omega),show decide (s+v≤b.length)=true from Y4 (by omega),show decide (s≤s+v)=true from Y4 (by omega)]
   simp only[Y5,D7]
   rw[show decide ((b.take (s+v)).length≤bm)=true from Y4 (by simp;omega),Y5]
   simp only[Y1]
   by_cases hc:ke (b.take (s+v))=oE (b[s+v]?.getD 0) (b[s+v+1]?.getD 0) (b[s+v+2]?.getD 0) (b[s+v+3]?.getD 0)
   ·rw[if_pos hc]
    unfold oE at hc
    rw[←hc,show(ke (b.take (s+v)) != ke (b.take (s+v)))=false by simp,Y8]
    unfold B1
    rw[show decide ((List.drop s (b.take (s+v))).length≤bm)=true from Y4 (by simp;omega),Y5]
    rfl
   ·rw[if_neg hc]
    unfold oE at hc
    rw[show∀x y:Int,x≠y→(x != y)=true from fun x y h=>by simpa using h]
    ·rfl
    ·exact hc
theorem cX.left{a b:List Int}(h:cX (a++b)):cX a:=fun y hy=>h y (WL _ hy)
theorem cX.append{a b:List Int}(h:cX a)(h':cX b):cX (a++b):=fun y hy=>(Yw.1 hy).elim (h y) (h' y)
theorem cX.take{a:List Int}(h:cX a)(n:Nat):cX (a.take n):=fun y hy=>h y (YN hy)
theorem cX.drop{a:List Int}(h:cX a)(n:Nat):cX (a.drop n):=fun y hy=>h y (Wm hy)
theorem Ux(b:List Int)(hb:cX b)(hl:b.length≤bm):
 (∃(r:List Int) (n:Nat),0<n∧n≤b.length∧r.length≤65536∧cX r∧∀t,(b++t).length≤bm→oj FF (b++t)=some (r,(n:Int),0))∨
 (∃e,e≠0∧oj FF b=some ([],0,e)):=by
 rcases Kw b hb with ⟨v,s,h1,h2,h3,h4,h5⟩|⟨e,h1,h2⟩
 ·have hbody:∀t,(b++t).length≤bm→_:=fun t ht=>Mr (b++t) v s h3 h1 ht (h5 t)
  have h0:=hbody [] (by simpa using hl)
  rw[YE]at h0
  by_cases c1:65536<v
  ·rw[if_pos c1]at h0;exact .inr ⟨21,by decide,h0⟩
  ·rw[if_neg c1]at h0
   by_cases c2:b.length<s+v+4
   ·rw[if_pos c2]at h0;exact .inr ⟨20,by decide,h0⟩
   ·rw[if_neg c2]at h0
    have hlt:∀t,(b++t).take (s+v)=b.take (s+v):=fun t=>WC (by omega)
    have hg:∀t n,n<b.length→(b++t)[n]? =b[n]? :=fun t n hn=>Yt hn
    split at h0
    ·rename_i c3
     refine .inl ⟨(b.take (s+v)).drop s,s+v+4,by omega,by omega,by simp;omega,(hb.take _).drop _,fun t ht=>?_⟩
     rw[hbody t ht,if_neg c1,if_neg (by rw[Ya];omega),hlt,hg t (s+v) (by omega),hg t (s+v+1) (by omega),hg t (s+v+2) (by omega),hg t (s+v+3) (by omega),if_pos c3]
    ·exact .inr ⟨22,by decide,h0⟩
 ·refine .inr ⟨e,h1,?_⟩
  unfold oj;rw[h2];simp only[Y1]
  rw[show(e != 0)=true by simpa using h1,Y5]
theorem R1(n:Nat)(h:n<4294967296):oE ((n% 256:Nat):Int) ((n/256% 256:Nat):Int) ((n/65536% 256:Nat):Int) ((n/16777216% 256:Nat):Int)=n:=by
 unfold oE
 have w:∀m:Nat,m<4294967296→IntKind.wrap IntKind.u32 (m:Int)=(m:Int):=fun m hm=>wr .u32 rfl m hm
 rw[w (n% 256) (by omega),w (n/256% 256) (by omega),w (n/65536% 256) (by omega),w (n/16777216% 256) (by omega)]
 rw[show((2:Int)^(min (Int.toNat (8:Int)) 32))=((2^8:Nat):Int)from rfl,show((2:Int)^(min (Int.toNat (16:Int)) 32))=((2^16:Nat):Int)from rfl,
  show((2:Int)^(min (Int.toNat (24:Int)) 32))=((2^24:Nat):Int)from rfl,←Int.natCast_mul,←Int.natCast_mul,←Int.natCast_mul]
 rw[w _ (by omega),w _ (by omega),w _ (by omega)]
 rw[AE .u32 rfl _ _ (by show _<4294967296;omega) (by show _<4294967296;omega),C4 _ _ 8 (by omega),
  AE .u32 rfl _ _ (by show _<4294967296;omega) (by show _<4294967296;omega),C4 _ _ 16 (by omega),
  AE .u32 rfl _ _ (by show _<4294967296;omega) (by show _<4294967296;omega),C4 _ _ 24 (by omega)]
 congr 1;omega
theorem rJ(r:List Int):(cw r).length=(bJ r.length).length+r.length+4:=by
 unfold cw lY;simp;omega
theorem UN(r t:List Int)(hr:r.length≤65536)(hl:(cw r++t).length≤bm):oj FF (cw r++t)=some (r,((cw r).length:Int),0):=by
 have hp:=oZ 9 r.length
 have hs:(bJ r.length).length≤10:=hp.2
 have e:cw r++t=bJ r.length++(r++(lY (mA (bJ r.length++r))++t)):=by unfold cw;simp
 have hT:lM FF (cw r++t)=some (((r.length:Nat):Int),((bJ r.length).length:Int),0):=by rw[e];exact A4 r.length (by omega) _
 rw[Mr _ r.length (bJ r.length).length hs (by omega) hl hT,if_neg (by omega),if_neg (by rw[Ya,rJ];omega)]
 obtain⟨c1,c2⟩:=J0 (bJ r.length++r)
 have e2:cw r++t=(bJ r.length++r)++(lY (mA (bJ r.length++r))++t):=by unfold cw;simp
 have hk:(cw r++t).take ((bJ r.length).length+r.length)=bJ r.length++r:=by
  rw[e2,WC (by simp),YV (by simp)]
 have hg:∀j,(cw r++t)[(bJ r.length).length+r.length+j]? =(lY (mA (bJ r.length++r))++t)[j]? :=by
  intro j
  rw[e2,Yf (by simp),Ya]
  congr 1;omega
 have h0:=hg 0
 rw[Nat.add_zero]at h0;rw[if_pos]
 ·rw[hk];simp[rJ]
 ·rw[hk,h0,hg 1,hg 2,hg 3]
  simp only[lY,YJ,List.getElem?_cons_zero,List.getElem?_cons_succ,Yv]
  rw[R1 _ c2,c1]
theorem cI(n:Nat):((n:Int)).toNat=n:=by omega
theorem TW(k:Nat)(h:k<9223372036854775808):rM FF [bW.mk 1 (k:Int) []]=some (0,bJ k):=by
 have e:qT FF [bW.mk 1 (k:Int) []] (3999998+1+1) 0 []=some (.inr (bJ k)):=by
  have hp:=CX k (by omega) [] (by simp[bm])
  have hw:IntKind.wrap IntKind.u64 (k:Int)=(k:Int):=by rw[V3];omega
  have hd:decide ((0:Int)≤(k:Int))=true:=by simp
  rw[YL]at hp;unfold qT
  simp only[Ye,YB,YS,Int.natCast_one,show decide ((0:Int)<1)=true from rfl,Y5,show decide ((0:Int)≤0)=true from rfl,
   show Int.toNat 0=0 from rfl,List.getElem?_cons_zero,Y1,show((1:Int)==1)=true from rfl,hd,hw,hp,Sum.elim_inr]
  unfold qT
  simp only[Ye,YB,YS,Int.natCast_one,show IntKind.wrap IntKind.i64 ((0:Int)+1)=1 from by rw[Yz];rfl,show decide ((1:Int)<1)=false from rfl,Y8]
 unfold rM
 rw[show qT FF [bW.mk 1 (k:Int) []] FF 0 []=_ from e]
 rfl
theorem K8(b:List Int)(v s:Nat)(h:lM FF b=some ((v:Int),(s:Int),0))(hv:v<18446744073709551616):
 oh FF 1 b=some (if v<9223372036854775808 then(bW.mk 1 (v:Int) [],(s:Int),0)else(bW.mk 1 0 [],0,21)):=by
 unfold oh
 simp only[show((1:Int) != 1)=false from rfl,Y8,Y1,h,show((0:Int) != 0)=false from rfl,show((1:Int)==1)=true from rfl,Y5]
 by_cases hq:v<9223372036854775808
 ·have:((Int.fdiv (v:Int) ((2:Int)^(min (Int.toNat (63:Int)) 64))) != 0)=false:=by
   rw[show((2:Int)^(min (Int.toNat (63:Int)) 64))=((9223372036854775808:Nat):Int)from rfl,Wd _ (by omega)]
   rw[show((v:Int)/((9223372036854775808:Nat):Int))=0 by omega];rfl
  rw[this,Y8,if_pos hq,show IntKind.wrap IntKind.i64 (v:Int)=v by rw[Yz];omega]
  rfl
 ·have:((Int.fdiv (v:Int) ((2:Int)^(min (Int.toNat (63:Int)) 64))) != 0)=true:=by
   rw[show((2:Int)^(min (Int.toNat (63:Int)) 64))=((9223372036854775808:Nat):Int)from rfl,Wd _ (by omega)]
   rw[show((v:Int)/((9223372036854775808:Nat):Int))=1 by omega];rfl
  rw[this,Y5,if_neg hq];rfl
theorem RU(b:List Int)(e:Int)(he:e≠0)(h:lM FF b=some (0,0,e)):oh FF 1 b=some (bW.mk 1 0 [],0,e):=by
 unfold oh
 simp only[show((1:Int) != 1)=false from rfl,Y8,Y1,h]
 rw[show((e != 0)=true)from by simpa using he,Y5]
theorem Lv(b:List Int)(f:bW)(s:Nat)(h:oh FF 1 b=some (f,(s:Int),0))(hs:s≤b.length):
 kK FF [1] b=some (if s<b.length then(21,[])else(0,[f])):=by
 have e:mG FF [1] (3999998+1+1) b 0 []=some (.inr (b.drop s,[f])):=by
  unfold mG
  simp only[Ye,YB,YS,Int.natCast_one,show decide ((0:Int)<1)=true from rfl,Y5,show decide ((0:Int)≤0)=true from rfl,
   show Int.toNat 0=0 from rfl,List.getElem?_cons_zero,Y1,h,show((0:Int) != 0)=false from rfl,Y8,show decide (1≤bm)=true from rfl,
   show decide ((0:Int)≤(s:Int))=true from by simp,cI,Y4 hs,Yg,decide_true]
  unfold mG
  simp only[Ye,YB,YS,Int.natCast_one,show IntKind.wrap IntKind.i64 ((0:Int)+1)=1 from by rw[Yz];rfl,show decide ((1:Int)<1)=false from rfl,Y8,YL]
 unfold kK
 rw[show mG FF [1] FF b 0 []=_ from e]
 simp only[Y1,Sum.elim_inr,YH]
 by_cases q:s<b.length
 ·rw[Y4 (by omega:(0:Int)<((b.length-s:Nat):Int)),Y5,if_pos q]
 ·rw[Ym (by omega:¬(0:Int)<((b.length-s:Nat):Int)),Y8,if_neg q]
theorem LH(b:List Int)(f:bW)(s e:Int)(he:e≠0)(h:oh FF 1 b=some (f,s,e)):kK FF [1] b=some (e,[]):=by
 have e':mG FF [1] (3999999+1) b 0 []=some (.inl (e,[])):=by
  unfold mG
  simp only[Ye,YB,YS,Int.natCast_one,show decide ((0:Int)<1)=true from rfl,Y5,show decide ((0:Int)≤0)=true from rfl,
   show Int.toNat 0=0 from rfl,List.getElem?_cons_zero,Y1,h]
  rw[show((e != 0)=true)from by simpa using he,Y5]
 unfold kK
 rw[show mG FF [1] FF b 0 []=_ from e']
 rfl
theorem TR(b:List Int)(hb:cX b):(∃N:Nat,kK FF [1] b=some (0,[bW.mk 1 (N:Int) []]))∨(∃e,e≠0∧kK FF [1] b=some (e,[])):=by
 rcases Kw b hb with ⟨v,s,h1,h2,h3,h4,h5⟩|⟨e,h1,h2⟩
 ·have ht:=h5 []
  rw[YE]at ht
  have hf:=K8 b v s ht h1
  by_cases q:v<9223372036854775808
  ·rw[if_pos q]at hf
   have:=Lv b _ s hf h4
   by_cases p:s<b.length
   ·rw[if_pos p]at this;exact .inr ⟨_,by decide,this⟩
   ·rw[if_neg p]at this;exact .inl ⟨_,this⟩
  ·rw[if_neg q]at hf
   exact .inr ⟨_,by decide,LH b _ _ _ (by decide) hf⟩
 ·exact .inr ⟨e,h1,LH b _ _ _ h1 (RU b e h1 h2)⟩
theorem TS(k:Nat)(h:k<9223372036854775808):kK FF [1] (bJ k)=some (0,[bW.mk 1 (k:Int) []]):=by
 have ht:=A4 k (by omega) []
 rw[YE]at ht
 have hf:=K8 _ k _ ht (by omega)
 rw[if_pos h]at hf;rw[Lv _ _ _ hf (Yg _),if_neg (Nat.lt_irrefl _)]
def Fr(b r:List Int)(n:Nat):Prop:=0<n∧n≤b.length∧r.length≤65536∧cX r∧∀t,(b++t).length≤bm→oj FF (b++t)=some (r,(n:Int),0)
def Un(b:List Int):Prop:=∃e,e≠0∧oj FF b=some ([],0,e)
inductive Sc:List Int→List (List Int)→List Int→Prop
 |nil {b:List Int}:Un b→Sc b [] b
 |cons {b r:List Int} {n:Nat} {rs:List (List Int)} {t:List Int}:Fr b r n→Sc (b.drop n) rs t→Sc b (r::rs) t
def eu(rs:List (List Int)):Prop:=∀r,r∈rs→r.length≤65536∧cX r
theorem qk(b:List Int)(hb:cX b)(hl:b.length≤bm):(∃r n,Fr b r n)∨Un b:=by
 rcases Ux b hb hl with ⟨r,n,h⟩|h
 ·exact .inl ⟨r,n,h⟩
 ·exact .inr h
theorem Fr.one{b r:List Int}{n:Nat}(h:Fr b r n)(hl:b.length≤bm):oj FF b=some (r,(n:Int),0):=by
 have:=h.2.2.2.2 []
 rw[YE]at this;exact this hl
theorem Dl(r t:List Int)(hr:r.length≤65536)(hb:cX r):Fr (cw r++t) r (cw r).length:=by
 refine⟨by rw[rJ];omega,by simp,hr,hb,fun u hu=>?_⟩
 rw[Yq]at hu⊢;exact UN r (t++u) hr hu
theorem cX.nil:cX []:=fun y hy=>by cases hy
theorem cX.cons{x:Int}{l:List Int}(h1:0≤x∧x≤255)(h:cX l):cX (x::l):=fun y hy=>by
 rcases Yh.1 hy with rfl|hy
 ·exact h1
 ·exact h y hy
theorem AY(k n:Nat):cX (ef k n):=by
 induction k generalizing n with
 |zero=>exact cX.cons ⟨by omega,by omega⟩ cX.nil
 |succ k ih=>
  unfold ef;split
  ·exact cX.cons ⟨by omega,by omega⟩ cX.nil
  ·exact cX.cons ⟨by omega,by omega⟩ (ih _)
theorem xK(r:List Int)(h:cX r):cX (cw r):=by
 unfold cw lY bJ
 refine cX.append (cX.append (AY _ _) h) ?_
 exact cX.cons ⟨by omega,by omega⟩ (cX.cons ⟨by omega,by omega⟩ (cX.cons ⟨by omega,by omega⟩ (cX.cons ⟨by omega,by omega⟩ cX.nil)))
theorem Da(r t:List Int)(hr:r.length≤65536)(hb:cX r)(hp:t<+:cw r)(hne:t.length<(cw r).length):Un t:=by
 obtain⟨x,hx⟩:=hp
 have hq:=oZ 9 r.length
 have Og:(bJ r.length).length≤10:=hq.2
 have hfl:=rJ r
 have xr:(cw r).length≤bm:=by rw[hfl];simp only[bm];omega
 have FQ:cX t:=by
  have:=xK r hb
  rw[←hx]at this;exact this.left
 rcases qk t FQ (by omega)with ⟨r',n,h⟩|h
 ·have h1:=h.2.2.2.2 x (by rw[hx];exact xr)
  rw[hx]at h1
  have h2:=(Dl r [] hr hb).one (by simpa using xr)
  rw[YE]at h2;rw[h2]at h1
  injection h1 with h1
  have h3:=YF (fun p=>p.2.1) h1
  simp only at h3
  have:=h.2.1
  omega
 ·exact h
theorem rG:Un []:=Da [] [] (by simp) cX.nil (List.nil_prefix) (by rw[rJ];simp)
theorem Sc.len{b t:List Int}{rs:List (List Int)}(h:Sc b rs t):rs.length+t.length≤b.length∧t.length≤b.length:=by
 induction h with
 |nil _=>simp
 | @cons b r n rs t hf _ ih=>
  have h1:=hf.1
  have h2:=hf.2.1
  rw[YH]at ih;simp only[Ye];omega
theorem Sc.bE{b t:List Int}{rs:List (List Int)}(h:Sc b rs t):eu rs:=by
 induction h with
 |nil _=>intro r hr;cases hr
 |cons hf _ ih=>
  intro r hr
  rcases Yh.1 hr with rfl|hr
  ·exact⟨hf.2.2.1,hf.2.2.2.1⟩
  ·exact ih r hr
theorem Sq:∀(k:Nat) (b:List Int),b.length≤k→cX b→b.length≤bm→∃rs t,Sc b rs t:=by
 intro k
 induction k with
 |zero=>
  intro b hk hb hl
  have:b=[]:=WD (by omega)
  subst this;exact⟨_,_,.nil rG⟩
 |succ k ih=>
  intro b hk hb hl
  rcases qk b hb hl with ⟨r,n,h⟩|h
  ·have h1:=h.1
   obtain⟨rs,t,hs⟩:=ih (b.drop n) (by rw[YH];omega) (hb.drop n) (by rw[YH];omega)
   exact⟨_,_,.cons h hs⟩
  ·exact⟨_,_,.nil h⟩
theorem SD(rs:List (List Int))(h:eu rs)(t:List Int)(ht:Un t):Sc (rs.flatMap cw++t) rs t:=by
 induction rs with
 |nil=>exact .nil ht
 |cons r rs ih=>
  have hr:=h r (Yl ..)
  rw[Vl,Yq]
  refine .cons (Dl r _ hr.1 hr.2) ?_
  rw[List.drop_left]
  exact ih (fun q hq=>h q (Yk _ hq))
theorem Sc.more{b t:List Int}{rs:List (List Int)}(h:Sc b rs t)(ht:t=[])(r:List Int)(hr:r.length≤65536)(hb:cX r):Sc (b++cw r) (rs++[r]) []:=by
 induction h with
 |nil _=>
  subst ht
  have:=Dl r [] hr hb
  rw[YE]at this;rw[YL]
  refine .cons this ?_
  rw[List.drop_length];exact .nil rG
 | @cons b r' n rs t hf _ ih=>
  have h2:=hf.2.1
  refine .cons (n:=n) ⟨hf.1,by rw[Ya];omega,hf.2.2.1,hf.2.2.2.1,fun u hu=>?_⟩ ?_
  ·rw[Yq]at hu⊢
   exact hf.2.2.2.2 _ hu
  ·rw[List.drop_append_of_le_length h2]
   exact ih ht
theorem dc(n:Nat):decide ((0:Int)≤(n:Int))=true:=by simp
theorem GR(b:List Int)(N:Int)(hL:b.length≤1048576):∀(rs:List (List Int)) (t:List Int) (size m:Nat) (l:List (List Int)),Sc (b.drop size) rs t→size≤b.length→rs.length<m→l.length+rs.length≤1048576→
 wC FF b (0,[bW.mk 1 N []]) m (size:Int) l=some (((b.length-t.length:Nat):Int),decide (N≤((l.length+rs.length:Nat):Int)),l++rs):=by
 intro rs
 induction rs with
 |nil=>
  intro t size m l hs hz hm hl
  cases hs with
  |nil hu=>
   obtain⟨e,he,hc⟩:=hu
   obtain⟨m,rfl⟩:∃k,m=k+1:=⟨m-1,by omega⟩
   unfold wC;rw[dc,Y5,cI,Y4 hz,Y5,Y4 (Yg _),Y5,hc,Y1];simp only
   rw[show((e != 0)=true)from by simpa using he,Y5]
   simp only[show Int.toNat 0=0 from rfl,List.getElem?_cons_zero,Y1,Yb,YE,YB,Nat.add_zero,YH]
   rw[show b.length-(b.length-size)=size by omega]
 |cons r rs ih=>
  intro t size m l hs hz hm hl
  cases hs with
  | @cons _ _ n _ _ hf hs=>
   have h1:=hf.1
   have h2:=hf.2.1
   rw[YH]at h2
   obtain⟨m,rfl⟩:∃k,m=k+1:=⟨m-1,by omega⟩
   have hc:=hf.one (by rw[YH];simp only[bm];omega)
   rw[Vg]at hs;simp only[Ye]at hm hl;unfold wC;rw[dc,Y5,cI,Y4 hz,Y5,Y4 (Yg _),Y5,hc,Y1]
   simp only[show((0:Int) != 0)=false from rfl,Y8]
   rw[Y4 (by simp only[bm];omega),Y5,show IntKind.wrap IntKind.i64 ((size:Int)+(n:Int))=((size+n:Nat):Int) by rw[Yz];omega]
   rw[ih t (size+n) m (l++[r]) hs (by omega) (by omega) (by rw[Ya,List.length_singleton];omega)]
   simp only[Ya,YB,Ye,Yq,List.singleton_append]
   rw[show l.length+(0+1)+rs.length=l.length+(rs.length+1) by omega]
theorem Tz(b:List Int)(hb:cX b)(hL:b.length≤1048576):∃(size:Nat) (whole:Bool) (rs:List (List Int)),mF FF b=some ((size:Int),whole,rs)∧size≤b.length∧eu rs∧rs.length≤b.length∧
 (whole=true→size=b.length→∀r,r.length≤65536→cX r→(b++cw r).length≤1048576→mF FF (b++cw r)=some (((b++cw r).length:Int),true,rs++[r])):=by
 have Ah:b.length≤bm:=by simp only[bm];omega
 rcases qk b hb Ah with ⟨h,n,hf⟩|⟨e,he,hc⟩
 ·have hc:=hf.one Ah
  have h1:=hf.1
  have h2:=hf.2.1
  rcases TR h hf.2.2.2.1 with ⟨N,hd⟩|⟨e,he,hd⟩
  ·obtain⟨rs,t,hs⟩:=Sq _ (b.drop n) (Yg _) (hb.drop n) (by rw[YH];omega)
   have hlen:=hs.len
   rw[YH]at hlen
   refine⟨b.length-t.length,decide ((N:Int)≤((0+rs.length:Nat):Int)),rs,?_,by omega,hs.bE,by omega,?_⟩
   ·unfold mF
    rw[hc,Y1]
    simp only[show((0:Int) != 0)=false from rfl,Y8,hd,Y1]
    rw[GR b N hL rs t n FF [] hs h2 (by show _<4000000;omega) (by simp;omega)]
    simp
   ·intro hw hsz r hr kX hl'
    have ht:t=[]:=WD (by omega)
    have nS:=hs.more ht r hr kX
    rw[←List.drop_append_of_le_length h2]at nS
    have hc':=hf.2.2.2.2 (cw r) (by simp only[bm];omega)
    unfold mF;rw[hc',Y1]
    simp only[show((0:Int) != 0)=false from rfl,Y8,hd,Y1]
    have dJ:=nS.len
    rw[YH]at dJ
    rw[GR (b++cw r) N hl' (rs++[r]) [] n FF [] nS (by rw[Ya];omega) (by show _<4000000;omega) (by simp only[YB];omega)]
    simp only[YB,Nat.sub_zero,YL,Ya,List.length_singleton,YS]at hw⊢
    have hw:=YI hw
    rw[Y4 (by omega)]
  ·refine⟨0,false,[],?_,by omega,(fun r hr=>by cases hr),by simp,(fun q=>by cases q)⟩
   unfold mF;rw[hc,Y1]
   simp only[show((0:Int) != 0)=false from rfl,Y8,hd,Y1]
   rw[show((e != 0)=true)from by simpa using he,Y5];rfl
 ·refine⟨0,false,[],?_,by omega,(fun r hr=>by cases hr),by simp,(fun q=>by cases q)⟩
  unfold mF;rw[hc,Y1];simp only
  rw[show((e != 0)=true)from by simpa using he,Y5];rfl
def bH(k:Nat)(rs:List (List Int))(t:List Int):List Int:=cw (bJ k)++(rs.flatMap cw++t)
theorem G2(k:Nat)(rs:List (List Int))(t:List Int)(hk:k<9223372036854775808)(hr:eu rs)(ht:Un t)(hl:(bH k rs t).length≤1048576):
 mF FF (bH k rs t)=some ((((bH k rs t).length-t.length:Nat):Int),decide (k≤rs.length),rs):=by
 have hq:=oZ 9 k
 have Og:(bJ k).length≤10:=hq.2
 have hf:=Dl (bJ k) (rs.flatMap cw++t) (by omega) (AY _ _)
 have hc:=hf.one (by show(bH k rs t).length≤bm;simp only[bm];omega)
 have hs:Sc ((bH k rs t).drop (cw (bJ k)).length) rs t:=by
  unfold bH;rw[List.drop_left];exact SD rs hr t ht
 have hlen:=hs.len
 rw[YH]at hlen;unfold mF
 rw[show oj FF (bH k rs t)=_ from hc,Y1]
 simp only[show((0:Int) != 0)=false from rfl,Y8,TS k hk,Y1]
 rw[GR (bH k rs t) k hl rs t (cw (bJ k)).length FF [] hs hf.2.1 (by show _<4000000;omega) (by simp only[YB];omega)]
 simp
end Go.T
