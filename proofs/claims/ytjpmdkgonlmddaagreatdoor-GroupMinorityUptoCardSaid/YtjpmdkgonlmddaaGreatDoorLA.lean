import Derived.Test.YtjpmdkgonlmddaaGreatDoorSem
set_option linter.unusedVariables false
set_option linter.unusedSimpArgs false
namespace Go.T
open Go Go.Ab
theorem Zkk(k:Nat)(h:k<10):(UInt8.ofNat (48+k)).toNat=48+k:=by
 simp[UInt8.toNat_ofNat'];omega
theorem Zl3(u:Nat)(hu:u<1000000000000000000)(t:List UInt8):Lib.parseUint10 0 (Lib.decDigits u++t)=Lib.parseUint10 u t:=by
 induction u using Nat.strongRecOn generalizing t with
 |_ u ih=>
  by_cases h:u<10
  ·rw[Lib.decDigits_one h]
   simp only[YH,YO,Lib.parseUint10,Zkk u h]
   rw[if_pos (by omega),if_neg (by omega),if_neg (by omega)]
   congr 1;omega
  ·have e:Lib.decDigits u=Lib.decDigits (u/10)++[UInt8.ofNat (48+u% 10)]:=by
    rw[Lib.decDigits,dif_neg h]
   rw[e,YE,ih (u/10) (by omega) (by omega)]
   simp only[YH,YO,Lib.parseUint10,Zkk (u% 10) (by omega)]
   rw[if_pos (by omega),if_neg (by omega),if_neg (by omega)]
   congr 1;omega
theorem Zjs(u:Nat):Lib.decDigits u≠[]:=by
 rw[Lib.decDigits];split<;>simp
theorem ZkC(u:Nat):∀c,(Lib.decDigits u).head? =some c→48≤c.toNat∧c.toNat≤57:=by
 induction u using Nat.strongRecOn with
 |_ u ih=>
  intro c hc
  by_cases h:u<10
  ·rw[Lib.decDigits_one h]at hc
   simp only[List.head?_cons,Y1]at hc
   subst hc;rw[Zkk u h];omega
  ·have e:Lib.decDigits u=Lib.decDigits (u/10)++[UInt8.ofNat (48+u% 10)]:=by
    rw[Lib.decDigits,dif_neg h]
   rw[e]at hc
   refine ih (u/10) (by omega) c ?_
   cases hd:Lib.decDigits (u/10)with
   |nil=>exact absurd hd (Zjs _)
   |cons x r=>rw[hd]at hc;simpa using hc
theorem Zlx(u:Nat):Lib.itoa (u:Int)=Lib.decDigits u:=by unfold Lib.itoa;rw[if_neg (by omega)];simp
theorem Zkq(u:Nat)(hu:u<1000000000000000000):Lib.atoiAll (Lib.itoa (u:Int))=.ok (u:Int):=by
 rw[Zlx]
 have hp:=Zl3 u hu []
 rw[W8]at hp
 cases hd:Lib.decDigits u with
 |nil=>exact absurd hd (Zjs u)
 |cons c r=>
  have hc:=ZkC u c (by rw[hd];rfl)
  rw[hd]at hp
  have hm:Lib.parseMag (c::r)=.ok u:=by
   unfold Lib.parseMag;rw[if_neg (List.cons_ne_nil c r),hp];rfl
  simp only[Lib.atoiAll]
  rw[if_neg (by omega),hm]
  simp only
  rw[if_neg (by omega),if_neg (by omega),if_neg (by omega)]
theorem Zhf(p x:List UInt8):Lib.hasPrefix (p++x) p=true:=by
 unfold Lib.hasPrefix;exact List.isPrefixOf_iff_prefix.2 (List.prefix_append p x)
theorem Zi3(p x:List UInt8):Lib.trimPrefix (p++x) p=x:=by
 unfold Lib.trimPrefix;rw[Zhf];simp
theorem Zk2(u k:Nat)(h:u<10^(k+1)):(Lib.decDigits u).length≤k+1:=by
 induction k generalizing u with
 |zero=>rw[Lib.decDigits_one (by simpa using h)];simp
 |succ k ih=>
  by_cases h10:u<10
  ·rw[Lib.decDigits_one h10];simp
  ·rw[Lib.decDigits,dif_neg h10,Yd]
   have:=ih (u/10) (by rw[Nat.pow_succ]at h;omega)
   simp;omega
theorem Zog(n:Nat)(h1:1≤n)(h2:n≤999999999):ZbZ (logS++Lib.itoa (n:Int))=n:=by
 unfold ZbZ
 rw[Zi3,Zkq n (by omega)]
 simp only
 have:=Zk2 n 8 (by omega)
 rw[if_pos]
 exact⟨Zhf _ _,by rw[Zlx];exact this,by omega,trivial⟩
theorem ZkQ{s:List UInt8}(h:ZbZ s≠0):∃n:Nat,ZbZ s=n∧1≤n∧n≤999999999∧s=logS++Lib.itoa (n:Int):=by
 unfold ZbZ at h⊢
 cases ha:Lib.atoiAll (Lib.trimPrefix s logS)with
 |ok n=>
  rw[ha]at h;simp only at h⊢;split at h
  ·rename_i hc
   obtain⟨h1,h2,h3,h4⟩:=hc
   obtain⟨k,rfl⟩:∃k:Nat,n=k:=⟨n.toNat,by omega⟩
   have hs:s=logS++Lib.itoa (k:Int):=by
    rw[h4];unfold Lib.trimPrefix;rw[h1];unfold Lib.hasPrefix at h1
    obtain⟨t,rfl⟩:=List.isPrefixOf_iff_prefix.1 h1
    simp
   refine⟨k,by rw[if_pos ⟨h1,h2,h3,h4⟩],by omega,?_,hs⟩
   rw[←h4,Zlx,Lib.decDigits_length]at h2
   refine WG fun hn=>?_
   have hbig:∀(k u:Nat),10^k≤u→k+1≤Lib.nDigits u:=by
    intro k
    induction k with
    |zero=>intro u _;rw[Lib.nDigits];split<;>omega
    |succ k ih=>
     intro u hu;rw[Nat.pow_succ]at hu
     have h10:¬u<10:=by have:=Nat.pow_pos (n:=k) (show 0<10 by decide);omega
     rw[Lib.nDigits_big h10]
     have:=ih (u/10) (by omega)
     omega
   have:=hbig 9 k (by omega)
   omega
  ·exact absurd rfl h
 |_=>rw[ha]at h;exact absurd rfl h
theorem ZnL{a b:Nat}(ha:a<1000000000000000000)(hb:b<1000000000000000000)(h:Lib.itoa (a:Int)=Lib.itoa (b:Int)):a=b:=by
 have h1:=Zkq a ha
 rw[h,Zkq b hb]at h1
 injection h1 with h1
 omega
theorem ZgB(l:List (List UInt8)):(sortS l).Perm l:=List.mergeSort_perm _ _
theorem ZkH(l:List Int):(sortI l).Perm l:=List.mergeSort_perm _ _
theorem wr(k:IntKind)(hk:k.signed=false)(n:Nat)(h:n<2^k.bits):k.wrap (n:Int)=n:=by
 simp only[IntKind.wrap,hk]
 have:((n:Int)% (2^k.bits:Int))=n:=Int.emod_eq_of_lt (by omega) (by exact_mod_cast h)
 simpa using this
theorem Zmm(k:IntKind)(hk:k.signed=false)(a b:Nat)(ha:a<2^k.bits)(hb:b<2^k.bits):ibits .or k (a:Int) (b:Int)=((a|||b:Nat):Int):=by
 unfold ibits;simp only[BitVec.ofInt_natCast,BitVec.toNat_or,BitVec.toNat_ofNat,Wf ha,Wf hb];exact wr k hk _ (Nat.or_lt_two_pow ha hb)
theorem Zsx(k:IntKind)(hk:k.signed=false)(a b:Nat)(ha:a<2^k.bits)(hb:b<2^k.bits):ibits .and k (a:Int) (b:Int)=((a&&& b:Nat):Int):=by
 unfold ibits;simp only[BitVec.ofInt_natCast,BitVec.toNat_and,BitVec.toNat_ofNat,Wf ha,Wf hb];exact wr k hk _ (Nat.and_lt_two_pow _ hb)
theorem Zte(op:BinOp)(k:IntKind)(hk:k.signed=false)(a b:Int):∃n:Nat,ibits op k a b=n∧n<2^k.bits:=by
 unfold ibits;exact⟨_,wr k hk _ (BitVec.isLt _),BitVec.isLt _⟩
theorem Ztj(b:List Int):∃n:Nat,crcS b=n∧n<4294967296:=Zte .xor .u32 rfl _ _
set_option maxRecDepth 20000 in
theorem Zs4(a:Nat)(h:a<256):a|||128=a% 128+128:=by
 have:∀a:Fin 256,a.val|||128=a.val% 128+128:=by decide
 exact this ⟨a,h⟩
set_option maxRecDepth 20000 in
theorem ZsO(a:Nat)(h:a<256):a&&& 127=a% 128:=by
 have:∀a:Fin 256,a.val&&& 127=a.val% 128:=by decide
 exact this ⟨a,h⟩
theorem ZnA(a b k:Nat)(h:a<2^k):a|||(b*2^k)=a+b*2^k:=by
 rw[Nat.or_comm,Nat.mul_comm,Nat.add_comm,Nat.two_pow_add_eq_or_of_lt h]
abbrev FF:Nat:=4000000
def putN:Nat→Nat→List Int
 |0,n=>[((n% 256:Nat):Int)]
 |k+1,n=>if n<128 then [(n:Int)]else((n% 128+128:Nat):Int)::putN k (n/128)
def putL(n:Nat):List Int:=putN 9 n
theorem ZeR(k n:Nat):1≤(putN k n).length∧(putN k n).length≤k+1:=by
 induction k generalizing n with
 |zero=>simp[putN]
 |succ k ih=>
  unfold putN;split
  ·simp
  ·have:=ih (n/128);simp;omega
theorem Zs2(k:Nat):∀(n m:Nat) (l:List Int),n<128^(k+1)→n<18446744073709551616→k<m→l.length+k+1≤LIM→
 ∃(j:Nat) (t:List Int),ZcG FF m (n:Int) l=some ((j:Int),l++t)∧j<128∧t++[(j:Int)]=putN k n∧t.length≤k:=by
 induction k with
 |zero=>
  intro n m l h _ hm hl
  obtain⟨m,rfl⟩:∃q,m=q+1:=⟨m-1,by omega⟩
  refine⟨n,[],?_,by simpa using h,?_,by simp⟩
  ·simp only[ZcG]
   rw[show decide ((128:Int)≤(n:Int))=false from Yi (by simp at h;omega)]
   simp
  ·simp at h;simp[putN,Wf (show n<256 by omega)]
 |succ k ih=>
  intro n m l h h64 hm hl
  obtain⟨m,rfl⟩:∃q,m=q+1:=⟨m-1,by omega⟩
  by_cases hn:n<128
  ·refine⟨n,[],?_,hn,by simp[putN,hn],by simp⟩
   simp only[ZcG]
   rw[show decide ((128:Int)≤(n:Int))=false from Yi (by omega)]
   simp
  ·have hb:ibits BinOp.or IntKind.u8 (IntKind.wrap IntKind.u8 (n:Int)) (128:Int)=((n% 128+128:Nat):Int):=by
    rw[show IntKind.wrap IntKind.u8 (n:Int)=((n% 256:Nat):Int) by rw[WC];omega]
    have:=Zmm .u8 rfl (n% 256) 128 (by show _<256;omega) (by decide)
    rw[Zs4 _ (by omega)]at this
    rw[show(128:Int)=((128:Nat):Int)from rfl,this]
    congr 2;omega
   have hd:Int.fdiv (n:Int) ((2:Int)^(min (Int.toNat 7) 64))=((n/128:Nat):Int):=by
    show Int.fdiv (n:Int) 128=_
    rw[Wb _ (by omega)];omega
   obtain⟨j,t,h1,h2,h3,h4⟩:=ih (n/128) m (l++[((n% 128+128:Nat):Int)]) (by rw[Nat.pow_succ]at h;omega) (by omega) (by omega) (by simp;omega)
   refine⟨j,((n% 128+128:Nat):Int)::t,?_,h2,?_,by simp;omega⟩
   ·simp only[ZcG]
    rw[show decide ((128:Int)≤(n:Int))=true from Y2 (by omega),Y4,show decide (l.length+1≤LIM)=true from Y2 (by omega),Y4,hb,hd]
    rw[h1];simp
   ·rw[YH,h3,putN,if_neg hn]
theorem Znv(n:Nat)(h:n<18446744073709551616)(l:List Int)(hl:l.length+11≤LIM):Zeo FF (n:Int) l=some (l++putL n):=by
 obtain⟨j,t,h1,h2,h3,h4⟩:=Zs2 9 n FF l (by simp;omega) h (by decide) (by omega)
 unfold Zeo;rw[h1];simp only[Y0]
 rw[show decide ((l++t).length+1≤LIM)=true from Y2 (by simp;omega),Y4]
 rw[show IntKind.wrap IntKind.u8 (j:Int)=(j:Int) by rw[WC];omega]
 rw[YE,h3];rfl
def Byt(b:List Int):Prop:=∀y,y∈b→0≤y∧y≤255
def acc(x y i:Nat):Nat:=x|||((y% 128*2^(7*i))% 18446744073709551616)
theorem Zn1(x y i:Nat)(h:x<18446744073709551616):acc x y i<18446744073709551616:=
 Nat.or_lt_two_pow (n:=64) h (Nat.mod_lt _ (by decide))
theorem Zto(x y i:Nat)(hx:x<18446744073709551616)(hy:y<256)(hi:i≤9):
 (@ibits BinOp.or IntKind.u64 (x:Int) (IntKind.wrap IntKind.u64 ((IntKind.wrap IntKind.u64 (@ibits BinOp.and IntKind.u8 (y:Int) (127:Int)))*((2:Int)^(min (Int.toNat (IntKind.wrap IntKind.i64 ((7:Int)*(i:Int)))) 64)))))=(acc x y i:Nat):=by
 have h1:ibits BinOp.and IntKind.u8 (y:Int) (127:Int)=((y% 128:Nat):Int):=by
  rw[show(127:Int)=((127:Nat):Int)from rfl,Zsx .u8 rfl y 127 hy (by decide),ZsO y hy]
 have h2:IntKind.wrap IntKind.i64 ((7:Int)*(i:Int))=((7*i:Nat):Int):=by rw[YG];omega
 rw[h1,h2,Int.toNat_natCast,show min (7*i) 64=7*i by omega]
 rw[show IntKind.wrap IntKind.u64 ((y% 128:Nat):Int)=((y% 128:Nat):Int)from wr .u64 rfl _ (by show _<18446744073709551616;omega)]
 have h3:IntKind.wrap IntKind.u64 (((y% 128:Nat):Int)*(2:Int)^(7*i))=(((y% 128*2^(7*i))% 18446744073709551616:Nat):Int):=by
  rw[show(((y% 128:Nat):Int)*(2:Int)^(7*i))=((y% 128*2^(7*i):Nat):Int) by push_cast;rfl]
  rw[WA];omega
 rw[h3]
 exact Zmm .u64 rfl _ _ hx (Nat.mod_lt _ (by decide))
theorem ZjD(b:List Int)(m i:Nat)(x:Int)(h:b.length≤i):Zbn FF b (m+1) x (i:Int)=some (.inr ()):=by
 simp only[Zbn]
 rw[show decide ((i:Int)<(b.length:Int))=false from Yi (by omega),Y7]
theorem Ze7(b:List Int)(m i x y:Nat)(h:b[i]? =some (y:Int))(hx:x<18446744073709551616)(hy:y<256)(hi:i≤9):
 Zbn FF b (m+1) (x:Int) (i:Int)=
  if(i=9∧1<y)∨(0<i∧y=0)then some (.inl (0,0,21))
  else if y<128 then some (.inl ((acc x y i:Nat),((i+1:Nat):Int),0))
  else Zbn FF b m ((acc x y i:Nat):Int) ((i+1:Nat):Int):=by
 have hlt:i<b.length:=(YC.1 h).1
 simp only[Zbn]
 rw[show decide ((i:Int)<(b.length:Int))=true from Y2 (by omega),Y4,
  show decide ((0:Int)≤(i:Int))=true from Y2 (by omega),Y4,Int.toNat_natCast,h]
 simp only[Y0];rw[Zto x y i hx hy hi]
 have hw:IntKind.wrap IntKind.i64 ((i:Int)+1)=((i+1:Nat):Int):=by rw[YG];omega
 rw[hw]
 have h7:IntKind.wrap IntKind.i64 ((7:Int)*(i:Int))=((7*i:Nat):Int):=by rw[YG];omega
 rw[h7,show decide ((0:Int)≤((7*i:Nat):Int))=true from Y2 (by omega),Y4]
 by_cases h9:i=9
 ·subst h9
  by_cases h1:1<y
  ·rw[if_pos (.inl ⟨rfl,h1⟩)]
   rw[show decide ((1:Int)<(y:Int))=true from Y2 (by omega)];rfl
  ·by_cases h0:y=0
   ·subst h0;rfl
   ·rw[if_neg (by omega),if_pos (by omega)]
    have:y=1:=by omega
    subst this;simp
 ·have e9:((i:Int)==9)=false:=by simp;omega
  rw[e9,Y7]
  by_cases h0:0<i
  ·rw[show decide ((0:Int)<(i:Int))=true from Y2 (by omega),Y4]
   simp only[Y0]
   by_cases hy0:y=0
   ·subst hy0;rw[if_pos (.inr ⟨h0,rfl⟩)];rfl
   ·rw[if_neg (by omega),show((y:Int)==0)=false by simp;omega,Y7]
    by_cases h128:y<128
    ·rw[show decide ((y:Int)<128)=true from Y2 (by omega),if_pos h128];rfl
    ·rw[show decide ((y:Int)<128)=false from Yi (by omega),if_neg h128];rfl
  ·rw[show decide ((0:Int)<(i:Int))=false from Yi (by omega),Y7]
   simp only[Y0,Y7]
   rw[if_neg (by omega)]
   by_cases h128:y<128
   ·rw[show decide ((y:Int)<128)=true from Y2 (by omega),if_pos h128];rfl
   ·rw[show decide ((y:Int)<128)=false from Yi (by omega),if_neg h128];rfl
theorem ZlL{b:List Int}(hb:Byt b){i:Nat}(h:i<b.length):∃y:Nat,b[i]? =some (y:Int)∧y<256:=by
 have:=hb b[i] (We h)
 exact⟨b[i].toNat,by rw[Y3 h];congr 1;omega,by omega⟩
theorem ZqL(b:List Int)(hb:Byt b):∀(k i x m:Nat),i+k=9→k<m→x<18446744073709551616→
 (∃v s:Nat,Zbn FF b m (x:Int) (i:Int)=some (.inl ((v:Int),(s:Int),0))∧v<18446744073709551616∧i<s∧s≤10∧s≤b.length∧
  ∀t,Zbn FF (b++t) m (x:Int) (i:Int)=some (.inl ((v:Int),(s:Int),0)))∨
 Zbn FF b m (x:Int) (i:Int)=some (.inl (0,0,21))∨Zbn FF b m (x:Int) (i:Int)=some (.inr ()):=by
 intro k
 induction k with
 |zero=>
  intro i x m hi hm hx
  obtain⟨m,rfl⟩:∃q,m=q+1:=⟨m-1,by omega⟩
  by_cases hl:i<b.length
  ·obtain⟨y,hy,hy2⟩:=ZlL hb hl
   have h1:=Ze7 b m i x y hy hx hy2 (by omega)
   have h2:∀t,_:=fun t=>Ze7 (b++t) m i x y (by rw[Yn hl];exact hy) hx hy2 (by omega)
   by_cases hc:(i=9∧1<y)∨(0<i∧y=0)
   ·rw[if_pos hc]at h1;exact .inr (.inl h1)
   ·have h128:y<128:=by omega
    refine .inl ⟨acc x y i,i+1,by rw[h1,if_neg hc,if_pos h128],Zn1 _ _ _ hx,by omega,by omega,by omega,fun t=>by rw[h2,if_neg hc,if_pos h128]⟩
  ·exact .inr (.inr (ZjD b m i x (by omega)))
 |succ k ih=>
  intro i x m hi hm hx
  obtain⟨m,rfl⟩:∃q,m=q+1:=⟨m-1,by omega⟩
  by_cases hl:i<b.length
  ·obtain⟨y,hy,hy2⟩:=ZlL hb hl
   have h1:=Ze7 b m i x y hy hx hy2 (by omega)
   have h2:∀t,_:=fun t=>Ze7 (b++t) m i x y (by rw[Yn hl];exact hy) hx hy2 (by omega)
   by_cases hc:(i=9∧1<y)∨(0<i∧y=0)
   ·rw[if_pos hc]at h1;exact .inr (.inl h1)
   ·by_cases h128:y<128
    ·exact .inl ⟨acc x y i,i+1,by rw[h1,if_neg hc,if_pos h128],Zn1 _ _ _ hx,by omega,by omega,by omega,fun t=>by rw[h2,if_neg hc,if_pos h128]⟩
    ·rw[if_neg hc,if_neg h128]at h1
     rcases ih (i+1) (acc x y i) m (by omega) (by omega) (Zn1 _ _ _ hx)with ⟨v,s,e,g1,g2,g3,g4,g5⟩|e|e
     ·exact .inl ⟨v,s,h1.trans e,g1,by omega,g3,g4,fun t=>by rw[h2,if_neg hc,if_neg h128];exact g5 t⟩
     ·exact .inr (.inl (h1.trans e))
     ·exact .inr (.inr (h1.trans e))
  ·exact .inr (.inr (ZjD b m i x (by omega)))
theorem Znm(b:List Int)(hb:Byt b):(∃v s:Nat,v<18446744073709551616∧0<s∧s≤10∧s≤b.length∧∀t,Zb0 FF (b++t)=some ((v:Int),(s:Int),0))∨
 (∃e,e≠0∧Zb0 FF b=some (0,0,e)):=by
 rcases ZqL b hb 9 0 0 FF rfl (by decide) (by decide)with ⟨v,s,e,g1,g2,g3,g4,g5⟩|e|e
 ·refine .inl ⟨v,s,g1,g2,g3,g4,fun t=>?_⟩
  unfold Zb0
  have:=g5 t
  simp only[Int.natCast_zero]at this;rw[this];rfl
 ·refine .inr ⟨21,by decide,?_⟩
  unfold Zb0;simp only[Int.natCast_zero]at e;rw[e];rfl
 ·refine .inr ⟨20,by decide,?_⟩
  unfold Zb0;simp only[Int.natCast_zero]at e;rw[e];rfl
theorem Znd(x y i:Nat)(hx:x<2^(7*i))(hy:y% 128*2^(7*i)<18446744073709551616):acc x y i=x+y% 128*2^(7*i):=by
 unfold acc;rw[Wf hy,ZnA _ _ _ hx]
theorem ZoU:∀(k i x n m:Nat) (b t:List Int),i+k=9→k<m→x<2^(7*i)→n*2^(7*i)<18446744073709551616→(0<i→0<n)→b.drop i=putN k n++t→
 Zbn FF b m (x:Int) (i:Int)=some (.inl (((x+n*2^(7*i):Nat):Int),((i+(putN k n).length:Nat):Int),0)):=by
 intro k
 induction k with
 |zero=>
  intro i x n m b t hi hm hx hn h0 hd
  obtain⟨m,rfl⟩:∃q,m=q+1:=⟨m-1,by omega⟩
  obtain rfl:i=9:=by omega
  have hn2:n<2:=by omega
  have hn1:n=1:=by have:=h0 (by decide);omega
  subst hn1
  have hg:b[9]? =some ((1:Nat):Int):=by
   have:=YI (fun l=>l[0]?) hd
   simpa[YM,putN]using this
  rw[Ze7 b m 9 x 1 hg (by omega) (by decide) (by decide),if_neg (by omega),if_pos (by decide),Znd x 1 9 hx (by decide)]
  rfl
 |succ k ih=>
  intro i x n m b t hi hm hx hn h0 hd
  obtain⟨m,rfl⟩:∃q,m=q+1:=⟨m-1,by omega⟩
  have hp:0<2^(7*i):=Nat.pow_pos (by decide)
  have hxx:x<18446744073709551616:=by
   have:2^(7*i)≤2^63:=Nat.pow_le_pow_right (by decide) (by omega)
   omega
  by_cases h128:n<128
  ·have hpn:putN (k+1) n=[(n:Int)]:=by simp[putN,h128]
   rw[hpn]at hd⊢
   have hg:b[i]? =some (n:Int):=by
    have:=YI (fun l=>l[0]?) hd
    simpa[YM]using this
   have hm128:n% 128=n:=Wf h128
   rw[Ze7 b m i x n hg hxx (by omega) (by omega),if_neg (by omega),if_pos h128,Znd x n i hx (by rw[hm128];exact hn),hm128]
   rfl
  ·have hpn:putN (k+1) n=((n% 128+128:Nat):Int)::putN k (n/128):=by rw[putN,if_neg h128]
   rw[hpn]at hd⊢
   have hg:b[i]? =some ((n% 128+128:Nat):Int):=by
    have:=YI (fun l=>l[0]?) hd
    simpa[YM]using this
   have hd2:b.drop (i+1)=putN k (n/128)++t:=by
    have:=YI (List.drop 1) hd
    simpa[Va]using this
   have hm128:(n% 128+128)% 128=n% 128:=by omega
   have hle:n% 128*2^(7*i)≤n*2^(7*i):=Yo _ (Nat.mod_le _ _)
   have hpow:2^(7*(i+1))=128*2^(7*i):=by rw[Nat.mul_add,Nat.pow_add,Nat.mul_comm]
   have hsum:n*2^(7*i)=n% 128*2^(7*i)+n/128*2^(7*(i+1)):=by
    rw[hpow,←Nat.mul_assoc,←YT];congr 1;omega
   have hacc:=Znd x (n% 128+128) i hx (by rw[hm128];omega)
   rw[hm128]at hacc
   have hlt2:n% 128*2^(7*i)≤127*2^(7*i):=Yo _ (by omega)
   rw[Ze7 b m i x (n% 128+128) hg hxx (by omega) (by omega),if_neg (by omega),if_neg (by omega),hacc,
    ih (i+1) (x+n% 128*2^(7*i)) (n/128) m b t (by omega) (by omega) (by omega) (by omega) (fun _=>by omega) hd2]
   rw[Yf,hsum]
   congr 4<;>omega
theorem Ziv(n:Nat)(h:n<18446744073709551616)(t:List Int):Zb0 FF (putL n++t)=some ((n:Int),((putL n).length:Int),0):=by
 have:=ZoU 9 0 0 n FF (putL n++t) t rfl (by decide) (by decide) (by simpa using h) (by omega) rfl
 unfold Zb0;simp only[Int.natCast_zero,YR,Nat.mul_zero,Nat.pow_zero,Nat.mul_one]at this;rw[this];rfl
def crcN(b:List Int):Nat:=(crcS b).toNat
theorem Zqd(b:List Int):crcS b=(crcN b:Int)∧crcN b<4294967296:=by
 obtain⟨n,h,h2⟩:=Ztj b
 unfold crcN;rw[h]
 exact⟨by simp,by simpa using h2⟩
def sumB(n:Nat):List Int:=[((n% 256:Nat):Int),((n/256% 256:Nat):Int),((n/65536% 256:Nat):Int),((n/16777216% 256:Nat):Int)]
def Za8(b:List Int):List Int:=(putL b.length++b)++sumB (crcN (putL b.length++b))
theorem Zrg(b:List Int)(h:b.length≤65536):Zf5 FF b=some (0,Za8 b):=by
 have hp:=ZeR 9 b.length
 unfold Zf5
 rw[show decide ((65536:Int)<(b.length:Int))=false from Yi (by omega),Y7,Ya,
  show IntKind.wrap IntKind.u64 (b.length:Int)=(b.length:Int) by rw[WA];omega,Znv b.length (by omega) [] (by simp[LIM])]
 simp only[Y0,YO]
 have hl:(putL b.length).length≤10:=hp.2
 rw[show decide ((putL b.length).length+b.length≤LIM)=true from Y2 (by simp only[LIM];omega),Y4]
 simp only[ZgM,Y0,ZdZ]
 rw[show decide ((putL b.length++b).length≤LIM)=true from Y2 (by simp only[LIM,Yd];omega),Y4]
 simp only[Y0]
 rw[show decide ((putL b.length++b).length+4≤LIM)=true from Y2 (by simp only[LIM,Yd];omega),Y4]
 obtain⟨h1,h2⟩:=Zqd (putL b.length++b)
 rw[h1];unfold Za8 sumB;generalize crcN (putL b.length++b)=n at h2⊢
 have e0:IntKind.wrap IntKind.u8 (n:Int)=((n% 256:Nat):Int):=by rw[WC];omega
 have e1:IntKind.wrap IntKind.u8 (Int.fdiv (n:Int) ((2:Int)^min (Int.toNat 8) 32))=((n/256% 256:Nat):Int):=by
  rw[WC,show((2:Int)^min (Int.toNat 8) 32)=256 from rfl,Wb _ (by omega)];omega
 have e2:IntKind.wrap IntKind.u8 (Int.fdiv (n:Int) ((2:Int)^min (Int.toNat 16) 32))=((n/65536% 256:Nat):Int):=by
  rw[WC,show((2:Int)^min (Int.toNat 16) 32)=65536 from rfl,Wb _ (by omega)];omega
 have e3:IntKind.wrap IntKind.u8 (Int.fdiv (n:Int) ((2:Int)^min (Int.toNat 24) 32))=((n/16777216% 256:Nat):Int):=by
  rw[WC,show((2:Int)^min (Int.toNat 24) 32)=16777216 from rfl,Wb _ (by omega)];omega
 rw[e0,e1,e2,e3]
def sumI(a b c d:Int):Int:=(@ibits BinOp.or IntKind.u32 (@ibits BinOp.or IntKind.u32 (@ibits BinOp.or IntKind.u32 (IntKind.wrap IntKind.u32 a) (IntKind.wrap IntKind.u32 ((IntKind.wrap IntKind.u32 b)*((2:Int)^(min (Int.toNat (8:Int)) 32))))) (IntKind.wrap IntKind.u32 ((IntKind.wrap IntKind.u32 c)*((2:Int)^(min (Int.toNat (16:Int)) 32))))) (IntKind.wrap IntKind.u32 ((IntKind.wrap IntKind.u32 d)*((2:Int)^(min (Int.toNat (24:Int)) 32)))))
theorem Zji(b:List Int)(v s:Nat)(hs:s≤10)(hv:v<18446744073709551616)(hl:b.length≤LIM)(ht:Zb0 FF b=some ((v:Int),(s:Int),0)):
 ZbK FF b=
  if 65536<v then some ([],0,21)
  else if b.length<s+v+4 then some ([],0,20)
  else if crcS (b.take (s+v))=sumI (b[s+v]?.getD 0) (b[s+v+1]?.getD 0) (b[s+v+2]?.getD 0) (b[s+v+3]?.getD 0)then some ((b.take (s+v)).drop s,((s+v+4:Nat):Int),0)
  else some ([],0,22):=by
 unfold ZbK;rw[ht];simp only[Y0]
 rw[show((0:Int) != 0)=false from rfl,Y7]
 by_cases h1:65536<v
 ·rw[if_pos h1,show decide ((65536:Int)<(v:Int))=true from Y2 (by omega),Y4]
 ·rw[if_neg h1,show decide ((65536:Int)<(v:Int))=false from Yi (by omega),Y7]
  have w1:IntKind.wrap IntKind.i64 (v:Int)=(v:Int):=by rw[YG];omega
  have w2:∀n:Nat,n<1000000→IntKind.wrap IntKind.i64 (n:Int)=(n:Int):=fun n hn=>by rw[YG];omega
  rw[w1,show(s:Int)+(v:Int)=((s+v:Nat):Int) by omega,w2 (s+v) (by omega)]
  have a1:((s+v:Nat):Int)+4=((s+v+4:Nat):Int):=by omega
  have a2:((s+v:Nat):Int)+1=((s+v+1:Nat):Int):=by omega
  have a3:((s+v:Nat):Int)+2=((s+v+2:Nat):Int):=by omega
  have a4:((s+v:Nat):Int)+3=((s+v+3:Nat):Int):=by omega
  rw[a1,a2,a3,a4,w2 _ (by omega),w2 _ (by omega),w2 _ (by omega),w2 _ (by omega)]
  by_cases h2:b.length<s+v+4
  ·rw[if_pos h2,show decide ((b.length:Int)<((s+v+4:Nat):Int))=true from Y2 (by omega),Y4]
  ·rw[if_neg h2,show decide ((b.length:Int)<((s+v+4:Nat):Int))=false from Yi (by omega),Y7]
   have g:∀n:Nat,decide ((0:Int)≤(n:Int))=true:=fun n=>Y2 (by omega)
   have gt:∀n,n<b.length→b[n]? =some (b[n]?.getD 0):=fun n hn=>by rw[Y3 hn];rfl
   simp only[g,Y4,Int.toNat_natCast]
   rw[gt (s+v) (by omega),gt (s+v+1) (by omega),gt (s+v+2) (by omega),gt (s+v+3) (by omega)]
   simp only[Y0,ZgM,Yu]
   rw[show decide (0≤s+v)=true from Y2 (by omega),show decide (s+v≤b.length)=true from Y2 (by omega),show decide (s≤s+v)=true from Y2 (by omega)]
   simp only[Y4,ZeU]
   rw[show decide ((b.take (s+v)).length≤LIM)=true from Y2 (by simp;omega),Y4]
   simp only[Y0]
   by_cases hc:crcS (b.take (s+v))=sumI (b[s+v]?.getD 0) (b[s+v+1]?.getD 0) (b[s+v+2]?.getD 0) (b[s+v+3]?.getD 0)
   ·rw[if_pos hc]
    unfold sumI at hc
    rw[←hc,show(crcS (b.take (s+v)) != crcS (b.take (s+v)))=false by simp,Y7]
    unfold ZbO
    rw[show decide ((List.drop s (b.take (s+v))).length≤LIM)=true from Y2 (by simp;omega),Y4]
    rfl
   ·rw[if_neg hc]
    unfold sumI at hc
    rw[show∀x y:Int,x≠y→(x != y)=true from fun x y h=>by simpa using h]
    ·rfl
    ·exact hc
theorem Byt.left{a b:List Int}(h:Byt (a++b)):Byt a:=fun y hy=>h y (WZ _ hy)
theorem Byt.append{a b:List Int}(h:Byt a)(h':Byt b):Byt (a++b):=fun y hy=>(Yy.1 hy).elim (h y) (h' y)
theorem Byt.take{a:List Int}(h:Byt a)(n:Nat):Byt (a.take n):=fun y hy=>h y (YZ hy)
theorem Byt.drop{a:List Int}(h:Byt a)(n:Nat):Byt (a.drop n):=fun y hy=>h y (Wc hy)
theorem ZmL(b:List Int)(hb:Byt b)(hl:b.length≤LIM):
 (∃(r:List Int) (n:Nat),0<n∧n≤b.length∧r.length≤65536∧Byt r∧∀t,(b++t).length≤LIM→ZbK FF (b++t)=some (r,(n:Int),0))∨
 (∃e,e≠0∧ZbK FF b=some ([],0,e)):=by
 rcases Znm b hb with ⟨v,s,h1,h2,h3,h4,h5⟩|⟨e,h1,h2⟩
 ·have hbody:∀t,(b++t).length≤LIM→_:=fun t ht=>Zji (b++t) v s h3 h1 ht (h5 t)
  have h0:=hbody [] (by simpa using hl)
  rw[W8]at h0
  by_cases c1:65536<v
  ·rw[if_pos c1]at h0;exact .inr ⟨21,by decide,h0⟩
  ·rw[if_neg c1]at h0
   by_cases c2:b.length<s+v+4
   ·rw[if_pos c2]at h0;exact .inr ⟨20,by decide,h0⟩
   ·rw[if_neg c2]at h0
    have hlt:∀t,(b++t).take (s+v)=b.take (s+v):=fun t=>WQ (by omega)
    have hg:∀t n,n<b.length→(b++t)[n]? =b[n]? :=fun t n hn=>Yn hn
    split at h0
    ·rename_i c3
     refine .inl ⟨(b.take (s+v)).drop s,s+v+4,by omega,by omega,by simp;omega,(hb.take _).drop _,fun t ht=>?_⟩
     rw[hbody t ht,if_neg c1,if_neg (by rw[Yd];omega),hlt,hg t (s+v) (by omega),hg t (s+v+1) (by omega),hg t (s+v+2) (by omega),hg t (s+v+3) (by omega),if_pos c3]
    ·exact .inr ⟨22,by decide,h0⟩
 ·refine .inr ⟨e,h1,?_⟩
  unfold ZbK;rw[h2];simp only[Y0]
  rw[show(e != 0)=true by simpa using h1,Y4]
theorem ZqO(n:Nat)(h:n<4294967296):sumI ((n% 256:Nat):Int) ((n/256% 256:Nat):Int) ((n/65536% 256:Nat):Int) ((n/16777216% 256:Nat):Int)=n:=by
 unfold sumI
 have w:∀m:Nat,m<4294967296→IntKind.wrap IntKind.u32 (m:Int)=(m:Int):=fun m hm=>wr .u32 rfl m hm
 rw[w (n% 256) (by omega),w (n/256% 256) (by omega),w (n/65536% 256) (by omega),w (n/16777216% 256) (by omega)]
 rw[show((2:Int)^(min (Int.toNat (8:Int)) 32))=((2^8:Nat):Int)from rfl,show((2:Int)^(min (Int.toNat (16:Int)) 32))=((2^16:Nat):Int)from rfl,
  show((2:Int)^(min (Int.toNat (24:Int)) 32))=((2^24:Nat):Int)from rfl,←Int.natCast_mul,←Int.natCast_mul,←Int.natCast_mul]
 rw[w _ (by omega),w _ (by omega),w _ (by omega)]
 rw[Zmm .u32 rfl _ _ (by show _<4294967296;omega) (by show _<4294967296;omega),ZnA _ _ 8 (by omega),
  Zmm .u32 rfl _ _ (by show _<4294967296;omega) (by show _<4294967296;omega),ZnA _ _ 16 (by omega),
  Zmm .u32 rfl _ _ (by show _<4294967296;omega) (by show _<4294967296;omega),ZnA _ _ 24 (by omega)]
 congr 1;omega
theorem ZeO(r:List Int):(Za8 r).length=(putL r.length).length+r.length+4:=by
 unfold Za8 sumB;simp;omega
theorem Zlc(r t:List Int)(hr:r.length≤65536)(hl:(Za8 r++t).length≤LIM):ZbK FF (Za8 r++t)=some (r,((Za8 r).length:Int),0):=by
 have hp:=ZeR 9 r.length
 have hs:(putL r.length).length≤10:=hp.2
 have e:Za8 r++t=putL r.length++(r++(sumB (crcN (putL r.length++r))++t)):=by unfold Za8;simp
 have hT:Zb0 FF (Za8 r++t)=some (((r.length:Nat):Int),((putL r.length).length:Int),0):=by rw[e];exact Ziv r.length (by omega) _
 rw[Zji _ r.length (putL r.length).length hs (by omega) hl hT,if_neg (by omega),if_neg (by rw[Yd,ZeO];omega)]
 obtain⟨c1,c2⟩:=Zqd (putL r.length++r)
 have e2:Za8 r++t=(putL r.length++r)++(sumB (crcN (putL r.length++r))++t):=by unfold Za8;simp
 have hk:(Za8 r++t).take ((putL r.length).length+r.length)=putL r.length++r:=by
  rw[e2,WQ (by simp),YS (by simp)]
 have hg:∀j,(Za8 r++t)[(putL r.length).length+r.length+j]? =(sumB (crcN (putL r.length++r))++t)[j]? :=by
  intro j
  rw[e2,Yc (by simp),Yd]
  congr 1;omega
 have h0:=hg 0
 rw[Nat.add_zero]at h0;rw[if_pos]
 ·rw[hk];simp[ZeO]
 ·rw[hk,h0,hg 1,hg 2,hg 3]
  simp only[sumB,YH,List.getElem?_cons_zero,List.getElem?_cons_succ,Yu]
  rw[ZqO _ c2,c1]
theorem cI(n:Nat):((n:Int)).toNat=n:=by omega
theorem Zor(k:Nat)(h:k<9223372036854775808):Zdk FF [Zaf.mk 1 (k:Int) []]=some (0,putL k):=by
 have e:ZbP FF [Zaf.mk 1 (k:Int) []] (3999998+1+1) 0 []=some (.inr (putL k)):=by
  have hp:=Znv k (by omega) [] (by simp[LIM])
  have hw:IntKind.wrap IntKind.u64 (k:Int)=(k:Int):=by rw[WA];omega
  have hd:decide ((0:Int)≤(k:Int))=true:=by simp
  rw[YO]at hp;unfold ZbP
  simp only[Yf,Yx,YR,Int.natCast_one,show decide ((0:Int)<1)=true from rfl,Y4,show decide ((0:Int)≤0)=true from rfl,
   show Int.toNat 0=0 from rfl,List.getElem?_cons_zero,Y0,show((1:Int)==1)=true from rfl,hd,hw,hp,Sum.elim_inr]
  unfold ZbP
  simp only[Yf,Yx,YR,Int.natCast_one,show IntKind.wrap IntKind.i64 ((0:Int)+1)=1 from by rw[YG];rfl,show decide ((1:Int)<1)=false from rfl,Y7]
 unfold Zdk
 rw[show ZbP FF [Zaf.mk 1 (k:Int) []] FF 0 []=_ from e]
 rfl
theorem Zmu(b:List Int)(v s:Nat)(h:Zb0 FF b=some ((v:Int),(s:Int),0))(hv:v<18446744073709551616):
 Zcv FF 1 b=some (if v<9223372036854775808 then(Zaf.mk 1 (v:Int) [],(s:Int),0)else(Zaf.mk 1 0 [],0,21)):=by
 unfold Zcv
 simp only[show((1:Int) != 1)=false from rfl,Y7,Y0,h,show((0:Int) != 0)=false from rfl,show((1:Int)==1)=true from rfl,Y4]
 by_cases hq:v<9223372036854775808
 ·have:((Int.fdiv (v:Int) ((2:Int)^(min (Int.toNat (63:Int)) 64))) != 0)=false:=by
   rw[show((2:Int)^(min (Int.toNat (63:Int)) 64))=((9223372036854775808:Nat):Int)from rfl,Wb _ (by omega)]
   rw[show((v:Int)/((9223372036854775808:Nat):Int))=0 by omega];rfl
  rw[this,Y7,if_pos hq,show IntKind.wrap IntKind.i64 (v:Int)=v by rw[YG];omega]
  rfl
 ·have:((Int.fdiv (v:Int) ((2:Int)^(min (Int.toNat (63:Int)) 64))) != 0)=true:=by
   rw[show((2:Int)^(min (Int.toNat (63:Int)) 64))=((9223372036854775808:Nat):Int)from rfl,Wb _ (by omega)]
   rw[show((v:Int)/((9223372036854775808:Nat):Int))=1 by omega];rfl
  rw[this,Y4,if_neg hq];rfl
theorem Zp2(b:List Int)(e:Int)(he:e≠0)(h:Zb0 FF b=some (0,0,e)):Zcv FF 1 b=some (Zaf.mk 1 0 [],0,e):=by
 unfold Zcv
 simp only[show((1:Int) != 1)=false from rfl,Y7,Y0,h]
 rw[show((e != 0)=true)from by simpa using he,Y4]
theorem ZmB(b:List Int)(f:Zaf)(s:Nat)(h:Zcv FF 1 b=some (f,(s:Int),0))(hs:s≤b.length):
 Zbi FF [1] b=some (if s<b.length then(21,[])else(0,[f])):=by
 have e:ZaR FF [1] (3999998+1+1) b 0 []=some (.inr (b.drop s,[f])):=by
  unfold ZaR
  simp only[Yf,Yx,YR,Int.natCast_one,show decide ((0:Int)<1)=true from rfl,Y4,show decide ((0:Int)≤0)=true from rfl,
   show Int.toNat 0=0 from rfl,List.getElem?_cons_zero,Y0,h,show((0:Int) != 0)=false from rfl,Y7,show decide (1≤LIM)=true from rfl,
   show decide ((0:Int)≤(s:Int))=true from by simp,cI,Y2 hs,Yg,decide_true]
  unfold ZaR
  simp only[Yf,Yx,YR,Int.natCast_one,show IntKind.wrap IntKind.i64 ((0:Int)+1)=1 from by rw[YG];rfl,show decide ((1:Int)<1)=false from rfl,Y7,YO]
 unfold Zbi
 rw[show ZaR FF [1] FF b 0 []=_ from e]
 simp only[Y0,Sum.elim_inr,Yz]
 by_cases q:s<b.length
 ·rw[Y2 (by omega:(0:Int)<((b.length-s:Nat):Int)),Y4,if_pos q]
 ·rw[Yi (by omega:¬(0:Int)<((b.length-s:Nat):Int)),Y7,if_neg q]
theorem Zk3(b:List Int)(f:Zaf)(s e:Int)(he:e≠0)(h:Zcv FF 1 b=some (f,s,e)):Zbi FF [1] b=some (e,[]):=by
 have e':ZaR FF [1] (3999999+1) b 0 []=some (.inl (e,[])):=by
  unfold ZaR
  simp only[Yf,Yx,YR,Int.natCast_one,show decide ((0:Int)<1)=true from rfl,Y4,show decide ((0:Int)≤0)=true from rfl,
   show Int.toNat 0=0 from rfl,List.getElem?_cons_zero,Y0,h]
  rw[show((e != 0)=true)from by simpa using he,Y4]
 unfold Zbi
 rw[show ZaR FF [1] FF b 0 []=_ from e']
 rfl
theorem Zov(b:List Int)(hb:Byt b):(∃N:Nat,Zbi FF [1] b=some (0,[Zaf.mk 1 (N:Int) []]))∨(∃e,e≠0∧Zbi FF [1] b=some (e,[])):=by
 rcases Znm b hb with ⟨v,s,h1,h2,h3,h4,h5⟩|⟨e,h1,h2⟩
 ·have ht:=h5 []
  rw[W8]at ht
  have hf:=Zmu b v s ht h1
  by_cases q:v<9223372036854775808
  ·rw[if_pos q]at hf
   have:=ZmB b _ s hf h4
   by_cases p:s<b.length
   ·rw[if_pos p]at this;exact .inr ⟨_,by decide,this⟩
   ·rw[if_neg p]at this;exact .inl ⟨_,this⟩
  ·rw[if_neg q]at hf
   exact .inr ⟨_,by decide,Zk3 b _ _ _ (by decide) hf⟩
 ·exact .inr ⟨e,h1,Zk3 b _ _ _ h1 (Zp2 b e h1 h2)⟩
theorem Zou(k:Nat)(h:k<9223372036854775808):Zbi FF [1] (putL k)=some (0,[Zaf.mk 1 (k:Int) []]):=by
 have ht:=Ziv k (by omega) []
 rw[W8]at ht
 have hf:=Zmu _ k _ ht (by omega)
 rw[if_pos h]at hf;rw[ZmB _ _ _ hf (Yg _),if_neg (Nat.lt_irrefl _)]
def Fr(b r:List Int)(n:Nat):Prop:=0<n∧n≤b.length∧r.length≤65536∧Byt r∧∀t,(b++t).length≤LIM→ZbK FF (b++t)=some (r,(n:Int),0)
def Un(b:List Int):Prop:=∃e,e≠0∧ZbK FF b=some ([],0,e)
inductive Sc:List Int→List (List Int)→List Int→Prop
 |nil {b:List Int}:Un b→Sc b [] b
 |cons {b r:List Int} {n:Nat} {rs:List (List Int)} {t:List Int}:Fr b r n→Sc (b.drop n) rs t→Sc b (r::rs) t
def Recs(rs:List (List Int)):Prop:=∀r,r∈rs→r.length≤65536∧Byt r
theorem fr_or(b:List Int)(hb:Byt b)(hl:b.length≤LIM):(∃r n,Fr b r n)∨Un b:=by
 rcases ZmL b hb hl with ⟨r,n,h⟩|h
 ·exact .inl ⟨r,n,h⟩
 ·exact .inr h
theorem Fr.one{b r:List Int}{n:Nat}(h:Fr b r n)(hl:b.length≤LIM):ZbK FF b=some (r,(n:Int),0):=by
 have:=h.2.2.2.2 []
 rw[W8]at this;exact this hl
theorem ZjM(r t:List Int)(hr:r.length≤65536)(hb:Byt r):Fr (Za8 r++t) r (Za8 r).length:=by
 refine⟨by rw[ZeO];omega,by simp,hr,hb,fun u hu=>?_⟩
 rw[YE]at hu⊢;exact Zlc r (t++u) hr hu
theorem Byt.nil:Byt []:=fun y hy=>by cases hy
theorem Byt.cons{x:Int}{l:List Int}(h1:0≤x∧x≤255)(h:Byt l):Byt (x::l):=fun y hy=>by
 rcases Yj.1 hy with rfl|hy
 ·exact h1
 ·exact h y hy
theorem Zlo(k n:Nat):Byt (putN k n):=by
 induction k generalizing n with
 |zero=>exact Byt.cons ⟨by omega,by omega⟩ Byt.nil
 |succ k ih=>
  unfold putN;split
  ·exact Byt.cons ⟨by omega,by omega⟩ Byt.nil
  ·exact Byt.cons ⟨by omega,by omega⟩ (ih _)
theorem ZiP(r:List Int)(h:Byt r):Byt (Za8 r):=by
 unfold Za8 sumB putL
 refine Byt.append (Byt.append (Zlo _ _) h) ?_
 exact Byt.cons ⟨by omega,by omega⟩ (Byt.cons ⟨by omega,by omega⟩ (Byt.cons ⟨by omega,by omega⟩ (Byt.cons ⟨by omega,by omega⟩ Byt.nil)))
theorem Zr1(r t:List Int)(hr:r.length≤65536)(hb:Byt r)(hp:t<+:Za8 r)(hne:t.length<(Za8 r).length):Un t:=by
 obtain⟨x,hx⟩:=hp
 have hq:=ZeR 9 r.length
 have hql:(putL r.length).length≤10:=hq.2
 have hfl:=ZeO r
 have hll:(Za8 r).length≤LIM:=by rw[hfl];simp only[LIM];omega
 have hbt:Byt t:=by
  have:=ZiP r hb
  rw[←hx]at this;exact this.left
 rcases fr_or t hbt (by omega)with ⟨r',n,h⟩|h
 ·have h1:=h.2.2.2.2 x (by rw[hx];exact hll)
  rw[hx]at h1
  have h2:=(ZjM r [] hr hb).one (by simpa using hll)
  rw[W8]at h2;rw[h2]at h1
  injection h1 with h1
  have h3:=YI (fun p=>p.2.1) h1
  simp only at h3
  have:=h.2.1
  omega
 ·exact h
theorem ZoP:Un []:=Zr1 [] [] (by simp) Byt.nil (List.nil_prefix) (by rw[ZeO];simp)
theorem Sc.len{b t:List Int}{rs:List (List Int)}(h:Sc b rs t):rs.length+t.length≤b.length∧t.length≤b.length:=by
 induction h with
 |nil _=>simp
 | @cons b r n rs t hf _ ih=>
  have h1:=hf.1
  have h2:=hf.2.1
  rw[Yz]at ih;simp only[Yf];omega
theorem Sc.recs{b t:List Int}{rs:List (List Int)}(h:Sc b rs t):Recs rs:=by
 induction h with
 |nil _=>intro r hr;cases hr
 |cons hf _ ih=>
  intro r hr
  rcases Yj.1 hr with rfl|hr
  ·exact⟨hf.2.2.1,hf.2.2.2.1⟩
  ·exact ih r hr
theorem ZqU:∀(k:Nat) (b:List Int),b.length≤k→Byt b→b.length≤LIM→∃rs t,Sc b rs t:=by
 intro k
 induction k with
 |zero=>
  intro b hk hb hl
  have:b=[]:=List.eq_nil_of_length_eq_zero (by omega)
  subst this;exact⟨_,_,.nil ZoP⟩
 |succ k ih=>
  intro b hk hb hl
  rcases fr_or b hb hl with ⟨r,n,h⟩|h
  ·have h1:=h.1
   obtain⟨rs,t,hs⟩:=ih (b.drop n) (by rw[Yz];omega) (hb.drop n) (by rw[Yz];omega)
   exact⟨_,_,.cons h hs⟩
  ·exact⟨_,_,.nil h⟩
theorem Zo3(rs:List (List Int))(h:Recs rs)(t:List Int)(ht:Un t):Sc (rs.flatMap Za8++t) rs t:=by
 induction rs with
 |nil=>exact .nil ht
 |cons r rs ih=>
  have hr:=h r (Ys ..)
  rw[List.flatMap_cons,YE]
  refine .cons (ZjM r _ hr.1 hr.2) ?_
  rw[List.drop_left]
  exact ih (fun q hq=>h q (Yk _ hq))
theorem Sc.more{b t:List Int}{rs:List (List Int)}(h:Sc b rs t)(ht:t=[])(r:List Int)(hr:r.length≤65536)(hb:Byt r):Sc (b++Za8 r) (rs++[r]) []:=by
 induction h with
 |nil _=>
  subst ht
  have:=ZjM r [] hr hb
  rw[W8]at this;rw[YO]
  refine .cons this ?_
  rw[List.drop_length];exact .nil ZoP
 | @cons b r' n rs t hf _ ih=>
  have h2:=hf.2.1
  refine .cons (n:=n) ⟨hf.1,by rw[Yd];omega,hf.2.2.1,hf.2.2.2.1,fun u hu=>?_⟩ ?_
  ·rw[YE]at hu⊢
   exact hf.2.2.2.2 _ hu
  ·rw[List.drop_append_of_le_length h2]
   exact ih ht
theorem dc(n:Nat):decide ((0:Int)≤(n:Int))=true:=by simp
theorem ZmN(b:List Int)(N:Int)(hL:b.length≤1048576):∀(rs:List (List Int)) (t:List Int) (size m:Nat) (l:List (List Int)),Sc (b.drop size) rs t→size≤b.length→rs.length<m→l.length+rs.length≤1048576→
 ZeV FF b (0,[Zaf.mk 1 N []]) m (size:Int) l=some (((b.length-t.length:Nat):Int),decide (N≤((l.length+rs.length:Nat):Int)),l++rs):=by
 intro rs
 induction rs with
 |nil=>
  intro t size m l hs hz hm hl
  cases hs with
  |nil hu=>
   obtain⟨e,he,hc⟩:=hu
   obtain⟨m,rfl⟩:∃k,m=k+1:=⟨m-1,by omega⟩
   unfold ZeV;rw[dc,Y4,cI,Y2 hz,Y4,Y2 (Yg _),Y4,hc,Y0];simp only
   rw[show((e != 0)=true)from by simpa using he,Y4]
   simp only[show Int.toNat 0=0 from rfl,List.getElem?_cons_zero,Y0,Ya,W8,Yx,Nat.add_zero,Yz]
   rw[show b.length-(b.length-size)=size by omega]
 |cons r rs ih=>
  intro t size m l hs hz hm hl
  cases hs with
  | @cons _ _ n _ _ hf hs=>
   have h1:=hf.1
   have h2:=hf.2.1
   rw[Yz]at h2
   obtain⟨m,rfl⟩:∃k,m=k+1:=⟨m-1,by omega⟩
   have hc:=hf.one (by rw[Yz];simp only[LIM];omega)
   rw[Va]at hs;simp only[Yf]at hm hl;unfold ZeV;rw[dc,Y4,cI,Y2 hz,Y4,Y2 (Yg _),Y4,hc,Y0]
   simp only[show((0:Int) != 0)=false from rfl,Y7]
   rw[Y2 (by simp only[LIM];omega),Y4,show IntKind.wrap IntKind.i64 ((size:Int)+(n:Int))=((size+n:Nat):Int) by rw[YG];omega]
   rw[ih t (size+n) m (l++[r]) hs (by omega) (by omega) (by rw[Yd,List.length_singleton];omega)]
   simp only[Yd,Yx,Yf,YE,List.singleton_append]
   rw[show l.length+(0+1)+rs.length=l.length+(rs.length+1) by omega]
theorem ZkM(b:List Int)(hb:Byt b)(hL:b.length≤1048576):∃(size:Nat) (whole:Bool) (rs:List (List Int)),ZdN FF b=some ((size:Int),whole,rs)∧size≤b.length∧Recs rs∧rs.length≤b.length∧
 (whole=true→size=b.length→∀r,r.length≤65536→Byt r→(b++Za8 r).length≤1048576→ZdN FF (b++Za8 r)=some (((b++Za8 r).length:Int),true,rs++[r])):=by
 have hLIM:b.length≤LIM:=by simp only[LIM];omega
 rcases fr_or b hb hLIM with ⟨h,n,hf⟩|⟨e,he,hc⟩
 ·have hc:=hf.one hLIM
  have h1:=hf.1
  have h2:=hf.2.1
  rcases Zov h hf.2.2.2.1 with ⟨N,hd⟩|⟨e,he,hd⟩
  ·obtain⟨rs,t,hs⟩:=ZqU _ (b.drop n) (Yg _) (hb.drop n) (by rw[Yz];omega)
   have hlen:=hs.len
   rw[Yz]at hlen
   refine⟨b.length-t.length,decide ((N:Int)≤((0+rs.length:Nat):Int)),rs,?_,by omega,hs.recs,by omega,?_⟩
   ·unfold ZdN
    rw[hc,Y0]
    simp only[show((0:Int) != 0)=false from rfl,Y7,hd,Y0]
    rw[ZmN b N hL rs t n FF [] hs h2 (by show _<4000000;omega) (by simp;omega)]
    simp
   ·intro hw hsz r hr hbr hl'
    have ht:t=[]:=List.eq_nil_of_length_eq_zero (by omega)
    have hs':=hs.more ht r hr hbr
    rw[←List.drop_append_of_le_length h2]at hs'
    have hc':=hf.2.2.2.2 (Za8 r) (by simp only[LIM];omega)
    unfold ZdN;rw[hc',Y0]
    simp only[show((0:Int) != 0)=false from rfl,Y7,hd,Y0]
    have hl2:=hs'.len
    rw[Yz]at hl2
    rw[ZmN (b++Za8 r) N hl' (rs++[r]) [] n FF [] hs' (by rw[Yd];omega) (by show _<4000000;omega) (by simp only[Yx];omega)]
    simp only[Yx,Nat.sub_zero,YO,Yd,List.length_singleton,YR]at hw⊢
    have hw:=YD hw
    rw[Y2 (by omega)]
  ·refine⟨0,false,[],?_,by omega,(fun r hr=>by cases hr),by simp,(fun q=>by cases q)⟩
   unfold ZdN;rw[hc,Y0]
   simp only[show((0:Int) != 0)=false from rfl,Y7,hd,Y0]
   rw[show((e != 0)=true)from by simpa using he,Y4];rfl
 ·refine⟨0,false,[],?_,by omega,(fun r hr=>by cases hr),by simp,(fun q=>by cases q)⟩
  unfold ZdN;rw[hc,Y0];simp only
  rw[show((e != 0)=true)from by simpa using he,Y4];rfl
def logL(k:Nat)(rs:List (List Int))(t:List Int):List Int:=Za8 (putL k)++(rs.flatMap Za8++t)
theorem ZqX(k:Nat)(rs:List (List Int))(t:List Int)(hk:k<9223372036854775808)(hr:Recs rs)(ht:Un t)(hl:(logL k rs t).length≤1048576):
 ZdN FF (logL k rs t)=some ((((logL k rs t).length-t.length:Nat):Int),decide (k≤rs.length),rs):=by
 have hq:=ZeR 9 k
 have hql:(putL k).length≤10:=hq.2
 have hf:=ZjM (putL k) (rs.flatMap Za8++t) (by omega) (Zlo _ _)
 have hc:=hf.one (by show(logL k rs t).length≤LIM;simp only[LIM];omega)
 have hs:Sc ((logL k rs t).drop (Za8 (putL k)).length) rs t:=by
  unfold logL;rw[List.drop_left];exact Zo3 rs hr t ht
 have hlen:=hs.len
 rw[Yz]at hlen;unfold ZdN
 rw[show ZbK FF (logL k rs t)=_ from hc,Y0]
 simp only[show((0:Int) != 0)=false from rfl,Y7,Zou k hk,Y0]
 rw[ZmN (logL k rs t) k hl rs t (Za8 (putL k)).length FF [] hs hf.2.1 (by show _<4000000;omega) (by simp only[Yx];omega)]
 simp
end Go.T
