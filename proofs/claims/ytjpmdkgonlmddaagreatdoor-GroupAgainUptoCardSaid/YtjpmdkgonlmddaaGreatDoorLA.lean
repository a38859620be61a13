import Derived.Test.YtjpmdkgonlmddaaGreatDoorSem
set_option linter.unusedVariables false
set_option linter.unusedSimpArgs false
namespace Go.T
open Go Go.Ab
theorem Zko(k:Nat)(h:k<10):(UInt8.ofNat (48+k)).toNat=48+k:=by
 simp[UInt8.toNat_ofNat'];omega
theorem Zl8(u:Nat)(hu:u<1000000000000000000)(t:List UInt8):Lib.parseUint10 0 (Lib.decDigits u++t)=Lib.parseUint10 u t:=by
 induction u using Nat.strongRecOn generalizing t with
 |_ u ih=>
  by_cases h:u<10
  ·rw[Lib.decDigits_one h]
   simp only[List.cons_append,List.nil_append,Lib.parseUint10,Zko u h]
   rw[if_pos (by omega),if_neg (by omega),if_neg (by omega)]
   congr 1;omega
  ·have e:Lib.decDigits u=Lib.decDigits (u/10)++[UInt8.ofNat (48+u% 10)]:=by
    rw[Lib.decDigits,dif_neg h]
   rw[e,List.append_assoc,ih (u/10) (by omega) (by omega)]
   simp only[List.cons_append,List.nil_append,Lib.parseUint10,Zko (u% 10) (by omega)]
   rw[if_pos (by omega),if_neg (by omega),if_neg (by omega)]
   congr 1;omega
theorem Zju(u:Nat):Lib.decDigits u≠[]:=by
 rw[Lib.decDigits];split<;>simp
theorem ZkH(u:Nat):∀c,(Lib.decDigits u).head? =some c→48≤c.toNat∧c.toNat≤57:=by
 induction u using Nat.strongRecOn with
 |_ u ih=>
  intro c hc
  by_cases h:u<10
  ·rw[Lib.decDigits_one h]at hc
   simp only[List.head?_cons,Option.some.injEq]at hc
   subst hc;rw[Zko u h];omega
  ·have e:Lib.decDigits u=Lib.decDigits (u/10)++[UInt8.ofNat (48+u% 10)]:=by
    rw[Lib.decDigits,dif_neg h]
   rw[e]at hc
   refine ih (u/10) (by omega) c ?_
   cases hd:Lib.decDigits (u/10)with
   |nil=>exact absurd hd (Zju _)
   |cons x r=>rw[hd]at hc;simpa using hc
theorem ZlD(u:Nat):Lib.itoa (u:Int)=Lib.decDigits u:=by unfold Lib.itoa;rw[if_neg (by omega)];simp
theorem Zku(u:Nat)(hu:u<1000000000000000000):Lib.atoiAll (Lib.itoa (u:Int))=.ok (u:Int):=by
 rw[ZlD]
 have hp:=Zl8 u hu []
 rw[List.append_nil]at hp
 cases hd:Lib.decDigits u with
 |nil=>exact absurd hd (Zju u)
 |cons c r=>
  have hc:=ZkH u c (by rw[hd];rfl)
  rw[hd]at hp
  have hm:Lib.parseMag (c::r)=.ok u:=by
   unfold Lib.parseMag;rw[if_neg (List.cons_ne_nil c r),hp];rfl
  simp only[Lib.atoiAll]
  rw[if_neg (by omega),hm]
  simp only
  rw[if_neg (by omega),if_neg (by omega),if_neg (by omega)]
theorem Zhi(p x:List UInt8):Lib.hasPrefix (p++x) p=true:=by
 unfold Lib.hasPrefix;exact List.isPrefixOf_iff_prefix.2 (List.prefix_append p x)
theorem Zi7(p x:List UInt8):Lib.trimPrefix (p++x) p=x:=by
 unfold Lib.trimPrefix;rw[Zhi];simp
theorem Zk7(u k:Nat)(h:u<10^(k+1)):(Lib.decDigits u).length≤k+1:=by
 induction k generalizing u with
 |zero=>rw[Lib.decDigits_one (by simpa using h)];simp
 |succ k ih=>
  by_cases h10:u<10
  ·rw[Lib.decDigits_one h10];simp
  ·rw[Lib.decDigits,dif_neg h10,List.length_append]
   have:=ih (u/10) (by rw[Nat.pow_succ]at h;omega)
   simp;omega
theorem Zoo(n:Nat)(h1:1≤n)(h2:n≤999999999):ZbY (logS++Lib.itoa (n:Int))=n:=by
 unfold ZbY
 rw[Zi7,Zku n (by omega)]
 simp only
 have:=Zk7 n 8 (by omega)
 rw[if_pos]
 exact⟨Zhi _ _,by rw[ZlD];exact this,by omega,trivial⟩
theorem ZkV{s:List UInt8}(h:ZbY s≠0):∃n:Nat,ZbY s=n∧1≤n∧n≤999999999∧s=logS++Lib.itoa (n:Int):=by
 unfold ZbY at h⊢
 cases ha:Lib.atoiAll (Lib.trimPrefix s logS)with
 |ok n=>
  rw[ha]at h;simp only at h⊢;split at h
  ·rename_i hc
   obtain⟨h1,h2,h3,h4⟩:=hc
   obtain⟨k,rfl⟩:∃k:Nat,n=k:=⟨n.toNat,by omega⟩
   have hs:s=logS++Lib.itoa (k:Int):=by
    rw[h4];unfold Lib.trimPrefix;rw[h1];unfold Lib.hasPrefix at h1
    obtain⟨t,rfl⟩:=List.isPrefixOf_iff_prefix.1 h1
    simp
   refine⟨k,by rw[if_pos ⟨h1,h2,h3,h4⟩],by omega,?_,hs⟩
   rw[←h4,ZlD,Lib.decDigits_length]at h2
   refine Classical.byContradiction fun hn=>?_
   have hbig:∀(k u:Nat),10^k≤u→k+1≤Lib.nDigits u:=by
    intro k
    induction k with
    |zero=>intro u _;rw[Lib.nDigits];split<;>omega
    |succ k ih=>
     intro u hu;rw[Nat.pow_succ]at hu
     have h10:¬u<10:=by have:=Nat.pow_pos (n:=k) (show 0<10 by decide);omega
     rw[Lib.nDigits_big h10]
     have:=ih (u/10) (by omega)
     omega
   have:=hbig 9 k (by omega)
   omega
  ·exact absurd rfl h
 |_=>rw[ha]at h;exact absurd rfl h
theorem ZnS{a b:Nat}(ha:a<1000000000000000000)(hb:b<1000000000000000000)(h:Lib.itoa (a:Int)=Lib.itoa (b:Int)):a=b:=by
 have h1:=Zku a ha
 rw[h,Zku b hb]at h1
 injection h1 with h1
 omega
theorem ZgE(l:List (List UInt8)):(sortS l).Perm l:=List.mergeSort_perm _ _
theorem ZkM(l:List Int):(sortI l).Perm l:=List.mergeSort_perm _ _
theorem wr(k:IntKind)(hk:k.signed=false)(n:Nat)(h:n<2^k.bits):k.wrap (n:Int)=n:=by
 simp only[IntKind.wrap,hk]
 have:((n:Int)% (2^k.bits:Int))=n:=Int.emod_eq_of_lt (by omega) (by exact_mod_cast h)
 simpa using this
theorem Zms(k:IntKind)(hk:k.signed=false)(a b:Nat)(ha:a<2^k.bits)(hb:b<2^k.bits):ibits .or k (a:Int) (b:Int)=((a|||b:Nat):Int):=by
 unfold ibits;simp only[BitVec.ofInt_natCast,BitVec.toNat_or,BitVec.toNat_ofNat,Nat.mod_eq_of_lt ha,Nat.mod_eq_of_lt hb];exact wr k hk _ (Nat.or_lt_two_pow ha hb)
theorem Zsz(k:IntKind)(hk:k.signed=false)(a b:Nat)(ha:a<2^k.bits)(hb:b<2^k.bits):ibits .and k (a:Int) (b:Int)=((a&&& b:Nat):Int):=by
 unfold ibits;simp only[BitVec.ofInt_natCast,BitVec.toNat_and,BitVec.toNat_ofNat,Nat.mod_eq_of_lt ha,Nat.mod_eq_of_lt hb];exact wr k hk _ (Nat.and_lt_two_pow _ hb)
theorem Ztc(op:BinOp)(k:IntKind)(hk:k.signed=false)(a b:Int):∃n:Nat,ibits op k a b=n∧n<2^k.bits:=by
 unfold ibits;exact⟨_,wr k hk _ (BitVec.isLt _),BitVec.isLt _⟩
theorem Zth(b:List Int):∃n:Nat,crcS b=n∧n<4294967296:=Ztc .xor .u32 rfl _ _
set_option maxRecDepth 20000 in
theorem Zs5(a:Nat)(h:a<256):a|||128=a% 128+128:=by
 have:∀a:Fin 256,a.val|||128=a.val% 128+128:=by decide
 exact this ⟨a,h⟩
set_option maxRecDepth 20000 in
theorem ZsQ(a:Nat)(h:a<256):a&&& 127=a% 128:=by
 have:∀a:Fin 256,a.val&&& 127=a.val% 128:=by decide
 exact this ⟨a,h⟩
theorem ZnH(a b k:Nat)(h:a<2^k):a|||(b*2^k)=a+b*2^k:=by
 rw[Nat.or_comm,Nat.mul_comm,Nat.add_comm,Nat.two_pow_add_eq_or_of_lt h]
abbrev FF:Nat:=4000000
def putN:Nat→Nat→List Int
 |0,n=>[((n% 256:Nat):Int)]
 |k+1,n=>if n<128 then [(n:Int)]else((n% 128+128:Nat):Int)::putN k (n/128)
def putL(n:Nat):List Int:=putN 9 n
theorem ZeU(k n:Nat):1≤(putN k n).length∧(putN k n).length≤k+1:=by
 induction k generalizing n with
 |zero=>simp[putN]
 |succ k ih=>
  unfold putN;split
  ·simp
  ·have:=ih (n/128);simp;omega
theorem Zs4(k:Nat):∀(n m:Nat) (l:List Int),n<128^(k+1)→n<18446744073709551616→k<m→l.length+k+1≤LIM→
 ∃(j:Nat) (t:List Int),ZcG FF m (n:Int) l=some ((j:Int),l++t)∧j<128∧t++[(j:Int)]=putN k n∧t.length≤k:=by
 induction k with
 |zero=>
  intro n m l h _ hm hl
  obtain⟨m,rfl⟩:∃q,m=q+1:=⟨m-1,by omega⟩
  refine⟨n,[],?_,by simpa using h,?_,by simp⟩
  ·simp only[ZcG]
   rw[show decide ((128:Int)≤(n:Int))=false from decide_eq_false (by simp at h;omega)]
   simp
  ·simp at h;simp[putN,Nat.mod_eq_of_lt (show n<256 by omega)]
 |succ k ih=>
  intro n m l h h64 hm hl
  obtain⟨m,rfl⟩:∃q,m=q+1:=⟨m-1,by omega⟩
  by_cases hn:n<128
  ·refine⟨n,[],?_,hn,by simp[putN,hn],by simp⟩
   simp only[ZcG]
   rw[show decide ((128:Int)≤(n:Int))=false from decide_eq_false (by omega)]
   simp
  ·have hb:ibits BinOp.or IntKind.u8 (IntKind.wrap IntKind.u8 (n:Int)) (128:Int)=((n% 128+128:Nat):Int):=by
    rw[show IntKind.wrap IntKind.u8 (n:Int)=((n% 256:Nat):Int) by rw[IntKind.wrap_u8];omega]
    have:=Zms .u8 rfl (n% 256) 128 (by show _<256;omega) (by decide)
    rw[Zs5 _ (by omega)]at this
    rw[show(128:Int)=((128:Nat):Int)from rfl,this]
    congr 2;omega
   have hd:Int.fdiv (n:Int) ((2:Int)^(min (Int.toNat 7) 64))=((n/128:Nat):Int):=by
    show Int.fdiv (n:Int) 128=_
    rw[Int.fdiv_eq_ediv_of_nonneg _ (by omega)];omega
   obtain⟨j,t,h1,h2,h3,h4⟩:=ih (n/128) m (l++[((n% 128+128:Nat):Int)]) (by rw[Nat.pow_succ]at h;omega) (by omega) (by omega) (by simp;omega)
   refine⟨j,((n% 128+128:Nat):Int)::t,?_,h2,?_,by simp;omega⟩
   ·simp only[ZcG]
    rw[show decide ((128:Int)≤(n:Int))=true from decide_eq_true (by omega),cond_true,show decide (l.length+1≤LIM)=true from decide_eq_true (by omega),cond_true,hb,hd]
    rw[h1];simp
   ·rw[List.cons_append,h3,putN,if_neg hn]
theorem ZnC(n:Nat)(h:n<18446744073709551616)(l:List Int)(hl:l.length+11≤LIM):Zeo FF (n:Int) l=some (l++putL n):=by
 obtain⟨j,t,h1,h2,h3,h4⟩:=Zs4 9 n FF l (by simp;omega) h (by decide) (by omega)
 unfold Zeo;rw[h1];simp only[Option.bind_some]
 rw[show decide ((l++t).length+1≤LIM)=true from decide_eq_true (by simp;omega),cond_true]
 rw[show IntKind.wrap IntKind.u8 (j:Int)=(j:Int) by rw[IntKind.wrap_u8];omega]
 rw[List.append_assoc,h3];rfl
def Byt(b:List Int):Prop:=∀y,y∈b→0≤y∧y≤255
def acc(x y i:Nat):Nat:=x|||((y% 128*2^(7*i))% 18446744073709551616)
theorem Zn8(x y i:Nat)(h:x<18446744073709551616):acc x y i<18446744073709551616:=
 Nat.or_lt_two_pow (n:=64) h (Nat.mod_lt _ (by decide))
theorem Ztm(x y i:Nat)(hx:x<18446744073709551616)(hy:y<256)(hi:i≤9):
 (@ibits BinOp.or IntKind.u64 (x:Int) (IntKind.wrap IntKind.u64 ((IntKind.wrap IntKind.u64 (@ibits BinOp.and IntKind.u8 (y:Int) (127:Int)))*((2:Int)^(min (Int.toNat (IntKind.wrap IntKind.i64 ((7:Int)*(i:Int)))) 64)))))=(acc x y i:Nat):=by
 have h1:ibits BinOp.and IntKind.u8 (y:Int) (127:Int)=((y% 128:Nat):Int):=by
  rw[show(127:Int)=((127:Nat):Int)from rfl,Zsz .u8 rfl y 127 hy (by decide),ZsQ y hy]
 have h2:IntKind.wrap IntKind.i64 ((7:Int)*(i:Int))=((7*i:Nat):Int):=by rw[IntKind.wrap_i64];omega
 rw[h1,h2,Int.toNat_natCast,show min (7*i) 64=7*i by omega]
 rw[show IntKind.wrap IntKind.u64 ((y% 128:Nat):Int)=((y% 128:Nat):Int)from wr .u64 rfl _ (by show _<18446744073709551616;omega)]
 have h3:IntKind.wrap IntKind.u64 (((y% 128:Nat):Int)*(2:Int)^(7*i))=(((y% 128*2^(7*i))% 18446744073709551616:Nat):Int):=by
  rw[show(((y% 128:Nat):Int)*(2:Int)^(7*i))=((y% 128*2^(7*i):Nat):Int) by push_cast;rfl]
  rw[IntKind.wrap_u64];omega
 rw[h3]
 exact Zms .u64 rfl _ _ hx (Nat.mod_lt _ (by decide))
theorem ZjF(b:List Int)(m i:Nat)(x:Int)(h:b.length≤i):Zbj FF b (m+1) x (i:Int)=some (.inr ()):=by
 simp only[Zbj]
 rw[show decide ((i:Int)<(b.length:Int))=false from decide_eq_false (by omega),cond_false]
theorem Zfc(b:List Int)(m i x y:Nat)(h:b[i]? =some (y:Int))(hx:x<18446744073709551616)(hy:y<256)(hi:i≤9):
 Zbj FF b (m+1) (x:Int) (i:Int)=
  if(i=9∧1<y)∨(0<i∧y=0)then some (.inl (0,0,21))
  else if y<128 then some (.inl ((acc x y i:Nat),((i+1:Nat):Int),0))
  else Zbj FF b m ((acc x y i:Nat):Int) ((i+1:Nat):Int):=by
 have hlt:i<b.length:=(List.getElem?_eq_some_iff.1 h).1
 simp only[Zbj]
 rw[show decide ((i:Int)<(b.length:Int))=true from decide_eq_true (by omega),cond_true,
  show decide ((0:Int)≤(i:Int))=true from decide_eq_true (by omega),cond_true,Int.toNat_natCast,h]
 simp only[Option.bind_some];rw[Ztm x y i hx hy hi]
 have hw:IntKind.wrap IntKind.i64 ((i:Int)+1)=((i+1:Nat):Int):=by rw[IntKind.wrap_i64];omega
 rw[hw]
 have h7:IntKind.wrap IntKind.i64 ((7:Int)*(i:Int))=((7*i:Nat):Int):=by rw[IntKind.wrap_i64];omega
 rw[h7,show decide ((0:Int)≤((7*i:Nat):Int))=true from decide_eq_true (by omega),cond_true]
 by_cases h9:i=9
 ·subst h9
  by_cases h1:1<y
  ·rw[if_pos (.inl ⟨rfl,h1⟩)]
   rw[show decide ((1:Int)<(y:Int))=true from decide_eq_true (by omega)];rfl
  ·by_cases h0:y=0
   ·subst h0;rfl
   ·rw[if_neg (by omega),if_pos (by omega)]
    have:y=1:=by omega
    subst this;simp
 ·have e9:((i:Int)==9)=false:=by simp;omega
  rw[e9,cond_false]
  by_cases h0:0<i
  ·rw[show decide ((0:Int)<(i:Int))=true from decide_eq_true (by omega),cond_true]
   simp only[Option.bind_some]
   by_cases hy0:y=0
   ·subst hy0;rw[if_pos (.inr ⟨h0,rfl⟩)];rfl
   ·rw[if_neg (by omega),show((y:Int)==0)=false by simp;omega,cond_false]
    by_cases h128:y<128
    ·rw[show decide ((y:Int)<128)=true from decide_eq_true (by omega),if_pos h128];rfl
    ·rw[show decide ((y:Int)<128)=false from decide_eq_false (by omega),if_neg h128];rfl
  ·rw[show decide ((0:Int)<(i:Int))=false from decide_eq_false (by omega),cond_false]
   simp only[Option.bind_some,cond_false]
   rw[if_neg (by omega)]
   by_cases h128:y<128
   ·rw[show decide ((y:Int)<128)=true from decide_eq_true (by omega),if_pos h128];rfl
   ·rw[show decide ((y:Int)<128)=false from decide_eq_false (by omega),if_neg h128];rfl
theorem ZlQ{b:List Int}(hb:Byt b){i:Nat}(h:i<b.length):∃y:Nat,b[i]? =some (y:Int)∧y<256:=by
 have:=hb b[i] (List.getElem_mem h)
 exact⟨b[i].toNat,by rw[List.getElem?_eq_getElem h];congr 1;omega,by omega⟩
theorem ZqS(b:List Int)(hb:Byt b):∀(k i x m:Nat),i+k=9→k<m→x<18446744073709551616→
 (∃v s:Nat,Zbj FF b m (x:Int) (i:Int)=some (.inl ((v:Int),(s:Int),0))∧v<18446744073709551616∧i<s∧s≤10∧s≤b.length∧
  ∀t,Zbj FF (b++t) m (x:Int) (i:Int)=some (.inl ((v:Int),(s:Int),0)))∨
 Zbj FF b m (x:Int) (i:Int)=some (.inl (0,0,21))∨Zbj FF b m (x:Int) (i:Int)=some (.inr ()):=by
 intro k
 induction k with
 |zero=>
  intro i x m hi hm hx
  obtain⟨m,rfl⟩:∃q,m=q+1:=⟨m-1,by omega⟩
  by_cases hl:i<b.length
  ·obtain⟨y,hy,hy2⟩:=ZlQ hb hl
   have h1:=Zfc b m i x y hy hx hy2 (by omega)
   have h2:∀t,_:=fun t=>Zfc (b++t) m i x y (by rw[List.getElem?_append_left hl];exact hy) hx hy2 (by omega)
   by_cases hc:(i=9∧1<y)∨(0<i∧y=0)
   ·rw[if_pos hc]at h1;exact .inr (.inl h1)
   ·have h128:y<128:=by omega
    refine .inl ⟨acc x y i,i+1,by rw[h1,if_neg hc,if_pos h128],Zn8 _ _ _ hx,by omega,by omega,by omega,fun t=>by rw[h2,if_neg hc,if_pos h128]⟩
  ·exact .inr (.inr (ZjF b m i x (by omega)))
 |succ k ih=>
  intro i x m hi hm hx
  obtain⟨m,rfl⟩:∃q,m=q+1:=⟨m-1,by omega⟩
  by_cases hl:i<b.length
  ·obtain⟨y,hy,hy2⟩:=ZlQ hb hl
   have h1:=Zfc b m i x y hy hx hy2 (by omega)
   have h2:∀t,_:=fun t=>Zfc (b++t) m i x y (by rw[List.getElem?_append_left hl];exact hy) hx hy2 (by omega)
   by_cases hc:(i=9∧1<y)∨(0<i∧y=0)
   ·rw[if_pos hc]at h1;exact .inr (.inl h1)
   ·by_cases h128:y<128
    ·exact .inl ⟨acc x y i,i+1,by rw[h1,if_neg hc,if_pos h128],Zn8 _ _ _ hx,by omega,by omega,by omega,fun t=>by rw[h2,if_neg hc,if_pos h128]⟩
    ·rw[if_neg hc,if_neg h128]at h1
     rcases ih (i+1) (acc x y i) m (by omega) (by omega) (Zn8 _ _ _ hx)with ⟨v,s,e,g1,g2,g3,g4,g5⟩|e|e
     ·exact .inl ⟨v,s,h1.trans e,g1,by omega,g3,g4,fun t=>by rw[h2,if_neg hc,if_neg h128];exact g5 t⟩
     ·exact .inr (.inl (h1.trans e))
     ·exact .inr (.inr (h1.trans e))
  ·exact .inr (.inr (ZjF b m i x (by omega)))
theorem Znu(b:List Int)(hb:Byt b):(∃v s:Nat,v<18446744073709551616∧0<s∧s≤10∧s≤b.length∧∀t,ZbZ FF (b++t)=some ((v:Int),(s:Int),0))∨
 (∃e,e≠0∧ZbZ FF b=some (0,0,e)):=by
 rcases ZqS b hb 9 0 0 FF rfl (by decide) (by decide)with ⟨v,s,e,g1,g2,g3,g4,g5⟩|e|e
 ·refine .inl ⟨v,s,g1,g2,g3,g4,fun t=>?_⟩
  unfold ZbZ
  have:=g5 t
  simp only[Int.natCast_zero]at this;rw[this];rfl
 ·refine .inr ⟨21,by decide,?_⟩
  unfold ZbZ;simp only[Int.natCast_zero]at e;rw[e];rfl
 ·refine .inr ⟨20,by decide,?_⟩
  unfold ZbZ;simp only[Int.natCast_zero]at e;rw[e];rfl
theorem Znl(x y i:Nat)(hx:x<2^(7*i))(hy:y% 128*2^(7*i)<18446744073709551616):acc x y i=x+y% 128*2^(7*i):=by
 unfold acc;rw[Nat.mod_eq_of_lt hy,ZnH _ _ _ hx]
theorem Zo4:∀(k i x n m:Nat) (b t:List Int),i+k=9→k<m→x<2^(7*i)→n*2^(7*i)<18446744073709551616→(0<i→0<n)→b.drop i=putN k n++t→
 Zbj FF b m (x:Int) (i:Int)=some (.inl (((x+n*2^(7*i):Nat):Int),((i+(putN k n).length:Nat):Int),0)):=by
 intro k
 induction k with
 |zero=>
  intro i x n m b t hi hm hx hn h0 hd
  obtain⟨m,rfl⟩:∃q,m=q+1:=⟨m-1,by omega⟩
  obtain rfl:i=9:=by omega
  have hn2:n<2:=by omega
  have hn1:n=1:=by have:=h0 (by decide);omega
  subst hn1
  have hg:b[9]? =some ((1:Nat):Int):=by
   have:=congrArg (fun l=>l[0]?) hd
   simpa[List.getElem?_drop,putN]using this
  rw[Zfc b m 9 x 1 hg (by omega) (by decide) (by decide),if_neg (by omega),if_pos (by decide),Znl x 1 9 hx (by decide)]
  rfl
 |succ k ih=>
  intro i x n m b t hi hm hx hn h0 hd
  obtain⟨m,rfl⟩:∃q,m=q+1:=⟨m-1,by omega⟩
  have hp:0<2^(7*i):=Nat.pow_pos (by decide)
  have hxx:x<18446744073709551616:=by
   have:2^(7*i)≤2^63:=Nat.pow_le_pow_right (by decide) (by omega)
   omega
  by_cases h128:n<128
  ·have hpn:putN (k+1) n=[(n:Int)]:=by simp[putN,h128]
   rw[hpn]at hd⊢
   have hg:b[i]? =some (n:Int):=by
    have:=congrArg (fun l=>l[0]?) hd
    simpa[List.getElem?_drop]using this
   have hm128:n% 128=n:=Nat.mod_eq_of_lt h128
   rw[Zfc b m i x n hg hxx (by omega) (by omega),if_neg (by omega),if_pos h128,Znl x n i hx (by rw[hm128];exact hn),hm128]
   rfl
  ·have hpn:putN (k+1) n=((n% 128+128:Nat):Int)::putN k (n/128):=by rw[putN,if_neg h128]
   rw[hpn]at hd⊢
   have hg:b[i]? =some ((n% 128+128:Nat):Int):=by
    have:=congrArg (fun l=>l[0]?) hd
    simpa[List.getElem?_drop]using this
   have hd2:b.drop (i+1)=putN k (n/128)++t:=by
    have:=congrArg (List.drop 1) hd
    simpa[List.drop_drop]using this
   have hm128:(n% 128+128)% 128=n% 128:=by omega
   have hle:n% 128*2^(7*i)≤n*2^(7*i):=Nat.mul_le_mul_right _ (Nat.mod_le _ _)
   have hpow:2^(7*(i+1))=128*2^(7*i):=by rw[Nat.mul_add,Nat.pow_add,Nat.mul_comm]
   have hsum:n*2^(7*i)=n% 128*2^(7*i)+n/128*2^(7*(i+1)):=by
    rw[hpow,←Nat.mul_assoc,←Nat.add_mul];congr 1;omega
   have hacc:=Znl x (n% 128+128) i hx (by rw[hm128];omega)
   rw[hm128]at hacc
   have hlt2:n% 128*2^(7*i)≤127*2^(7*i):=Nat.mul_le_mul_right _ (by omega)
   rw[Zfc b m i x (n% 128+128) hg hxx (by omega) (by omega),if_neg (by omega),if_neg (by omega),hacc,
    ih (i+1) (x+n% 128*2^(7*i)) (n/128) m b t (by omega) (by omega) (by omega) (by omega) (fun _=>by omega) hd2]
   rw[List.length_cons,hsum]
   congr 4<;>omega
theorem ZiB(n:Nat)(h:n<18446744073709551616)(t:List Int):ZbZ FF (putL n++t)=some ((n:Int),((putL n).length:Int),0):=by
 have:=Zo4 9 0 0 n FF (putL n++t) t rfl (by decide) (by decide) (by simpa using h) (by omega) rfl
 unfold ZbZ;simp only[Int.natCast_zero,Nat.zero_add,Nat.mul_zero,Nat.pow_zero,Nat.mul_one]at this;rw[this];rfl
def crcN(b:List Int):Nat:=(crcS b).toNat
theorem Zqm(b:List Int):crcS b=(crcN b:Int)∧crcN b<4294967296:=by
 obtain⟨n,h,h2⟩:=Zth b
 unfold crcN;rw[h]
 exact⟨by simp,by simpa using h2⟩
def sumB(n:Nat):List Int:=[((n% 256:Nat):Int),((n/256% 256:Nat):Int),((n/65536% 256:Nat):Int),((n/16777216% 256:Nat):Int)]
def Za2(b:List Int):List Int:=(putL b.length++b)++sumB (crcN (putL b.length++b))
theorem Zrm(b:List Int)(h:b.length≤65536):Zf7 FF b=some (0,Za2 b):=by
 have hp:=ZeU 9 b.length
 unfold Zf7
 rw[show decide ((65536:Int)<(b.length:Int))=false from decide_eq_false (by omega),cond_false,List.length_map,
  show IntKind.wrap IntKind.u64 (b.length:Int)=(b.length:Int) by rw[IntKind.wrap_u64];omega,ZnC b.length (by omega) [] (by simp[LIM])]
 simp only[Option.bind_some,List.nil_append]
 have hl:(putL b.length).length≤10:=hp.2
 rw[show decide ((putL b.length).length+b.length≤LIM)=true from decide_eq_true (by simp only[LIM];omega),cond_true]
 simp only[ZgO,Option.bind_some,ZdY]
 rw[show decide ((putL b.length++b).length≤LIM)=true from decide_eq_true (by simp only[LIM,List.length_append];omega),cond_true]
 simp only[Option.bind_some]
 rw[show decide ((putL b.length++b).length+4≤LIM)=true from decide_eq_true (by simp only[LIM,List.length_append];omega),cond_true]
 obtain⟨h1,h2⟩:=Zqm (putL b.length++b)
 rw[h1];unfold Za2 sumB;generalize crcN (putL b.length++b)=n at h2⊢
 have e0:IntKind.wrap IntKind.u8 (n:Int)=((n% 256:Nat):Int):=by rw[IntKind.wrap_u8];omega
 have e1:IntKind.wrap IntKind.u8 (Int.fdiv (n:Int) ((2:Int)^min (Int.toNat 8) 32))=((n/256% 256:Nat):Int):=by
  rw[IntKind.wrap_u8,show((2:Int)^min (Int.toNat 8) 32)=256 from rfl,Int.fdiv_eq_ediv_of_nonneg _ (by omega)];omega
 have e2:IntKind.wrap IntKind.u8 (Int.fdiv (n:Int) ((2:Int)^min (Int.toNat 16) 32))=((n/65536% 256:Nat):Int):=by
  rw[IntKind.wrap_u8,show((2:Int)^min (Int.toNat 16) 32)=65536 from rfl,Int.fdiv_eq_ediv_of_nonneg _ (by omega)];omega
 have e3:IntKind.wrap IntKind.u8 (Int.fdiv (n:Int) ((2:Int)^min (Int.toNat 24) 32))=((n/16777216% 256:Nat):Int):=by
  rw[IntKind.wrap_u8,show((2:Int)^min (Int.toNat 24) 32)=16777216 from rfl,Int.fdiv_eq_ediv_of_nonneg _ (by omega)];omega
 rw[e0,e1,e2,e3]
def sumI(a b c d:Int):Int:=(@ibits BinOp.or IntKind.u32 (@ibits BinOp.or IntKind.u32 (@ibits BinOp.or IntKind.u32 (IntKind.wrap IntKind.u32 a) (IntKind.wrap IntKind.u32 ((IntKind.wrap IntKind.u32 b)*((2:Int)^(min (Int.toNat (8:Int)) 32))))) (IntKind.wrap IntKind.u32 ((IntKind.wrap IntKind.u32 c)*((2:Int)^(min (Int.toNat (16:Int)) 32))))) (IntKind.wrap IntKind.u32 ((IntKind.wrap IntKind.u32 d)*((2:Int)^(min (Int.toNat (24:Int)) 32)))))
theorem Zjl(b:List Int)(v s:Nat)(hs:s≤10)(hv:v<18446744073709551616)(hl:b.length≤LIM)(ht:ZbZ FF b=some ((v:Int),(s:Int),0)):
 ZbG FF b=
  if 65536<v then some ([],0,21)
  else if b.length<s+v+4 then some ([],0,20)
  else if crcS (b.take (s+v))=sumI (b[s+v]?.getD 0) (b[s+v+1]?.getD 0) (b[s+v+2]?.getD 0) (b[s+v+3]?.getD 0)then some ((b.take (s+v)).drop s,((s+v+4:Nat):Int),0)
  else some ([],0,22):=by
 unfold ZbG;rw[ht];simp only[Option.bind_some]
 rw[show((0:Int) != 0)=false from rfl,cond_false]
 by_cases h1:65536<v
 ·rw[if_pos h1,show decide ((65536:Int)<(v:Int))=true from decide_eq_true (by omega),cond_true]
 ·rw[if_neg h1,show decide ((65536:Int)<(v:Int))=false from decide_eq_false (by omega),cond_false]
  have w1:IntKind.wrap IntKind.i64 (v:Int)=(v:Int):=by rw[IntKind.wrap_i64];omega
  have w2:∀n:Nat,n<1000000→IntKind.wrap IntKind.i64 (n:Int)=(n:Int):=fun n hn=>by rw[IntKind.wrap_i64];omega
  rw[w1,show(s:Int)+(v:Int)=((s+v:Nat):Int) by omega,w2 (s+v) (by omega)]
  have a1:((s+v:Nat):Int)+4=((s+v+4:Nat):Int):=by omega
  have a2:((s+v:Nat):Int)+1=((s+v+1:Nat):Int):=by omega
  have a3:((s+v:Nat):Int)+2=((s+v+2:Nat):Int):=by omega
  have a4:((s+v:Nat):Int)+3=((s+v+3:Nat):Int):=by omega
  rw[a1,a2,a3,a4,w2 _ (by omega),w2 _ (by omega),w2 _ (by omega),w2 _ (by omega)]
  by_cases h2:b.length<s+v+4
  ·rw[if_pos h2,show decide ((b.length:Int)<((s+v+4:Nat):Int))=true from decide_eq_true (by omega),cond_true]
  ·rw[if_neg h2,show decide ((b.length:Int)<((s+v+4:Nat):Int))=false from decide_eq_false (by omega),cond_false]
   have g:∀n:Nat,decide ((0:Int)≤(n:Int))=true:=fun n=>decide_eq_true (by omega)
   have gt:∀n,n<b.length→b[n]? =some (b[n]?.getD 0):=fun n hn=>by rw[List.getElem?_eq_getElem hn];rfl
   simp only[g,cond_true,Int.toNat_natCast]
   rw[gt (s+v) (by omega),gt (s+v+1) (by omega),gt (s+v+2) (by omega),gt (s+v+3) (by omega)]
   simp only[Option.bind_some,ZgO,Option.getD_some]
   rw[show decide (0≤s+v)=true from decide_eq_true (by omega),show decide (s+v≤b.length)=true from decide_eq_true (by omega),show decide (s≤s+v)=true from decide_eq_true (by omega)]
   simp only[cond_true,ZeY]
   rw[show decide ((b.take (s+v)).length≤LIM)=true from decide_eq_true (by simp;omega),cond_true]
   simp only[Option.bind_some]
   by_cases hc:crcS (b.take (s+v))=sumI (b[s+v]?.getD 0) (b[s+v+1]?.getD 0) (b[s+v+2]?.getD 0) (b[s+v+3]?.getD 0)
   ·rw[if_pos hc]
    unfold sumI at hc
    rw[←hc,show(crcS (b.take (s+v)) != crcS (b.take (s+v)))=false by simp,cond_false]
    unfold ZbN
    rw[show decide ((List.drop s (b.take (s+v))).length≤LIM)=true from decide_eq_true (by simp;omega),cond_true]
    rfl
   ·rw[if_neg hc]
    unfold sumI at hc
    rw[show∀x y:Int,x≠y→(x != y)=true from fun x y h=>by simpa using h]
    ·rfl
    ·exact hc
theorem Byt.left{a b:List Int}(h:Byt (a++b)):Byt a:=fun y hy=>h y (List.mem_append_left _ hy)
theorem Byt.append{a b:List Int}(h:Byt a)(h':Byt b):Byt (a++b):=fun y hy=>(List.mem_append.1 hy).elim (h y) (h' y)
theorem Byt.take{a:List Int}(h:Byt a)(n:Nat):Byt (a.take n):=fun y hy=>h y (List.mem_of_mem_take hy)
theorem Byt.drop{a:List Int}(h:Byt a)(n:Nat):Byt (a.drop n):=fun y hy=>h y (List.mem_of_mem_drop hy)
theorem ZmS(b:List Int)(hb:Byt b)(hl:b.length≤LIM):
 (∃(r:List Int) (n:Nat),0<n∧n≤b.length∧r.length≤65536∧Byt r∧∀t,(b++t).length≤LIM→ZbG FF (b++t)=some (r,(n:Int),0))∨
 (∃e,e≠0∧ZbG FF b=some ([],0,e)):=by
 rcases Znu b hb with ⟨v,s,h1,h2,h3,h4,h5⟩|⟨e,h1,h2⟩
 ·have hbody:∀t,(b++t).length≤LIM→_:=fun t ht=>Zjl (b++t) v s h3 h1 ht (h5 t)
  have h0:=hbody [] (by simpa using hl)
  rw[List.append_nil]at h0
  by_cases c1:65536<v
  ·rw[if_pos c1]at h0;exact .inr ⟨21,by decide,h0⟩
  ·rw[if_neg c1]at h0
   by_cases c2:b.length<s+v+4
   ·rw[if_pos c2]at h0;exact .inr ⟨20,by decide,h0⟩
   ·rw[if_neg c2]at h0
    have hlt:∀t,(b++t).take (s+v)=b.take (s+v):=fun t=>List.take_append_of_le_length (by omega)
    have hg:∀t n,n<b.length→(b++t)[n]? =b[n]? :=fun t n hn=>List.getElem?_append_left hn
    split at h0
    ·rename_i c3
     refine .inl ⟨(b.take (s+v)).drop s,s+v+4,by omega,by omega,by simp;omega,(hb.take _).drop _,fun t ht=>?_⟩
     rw[hbody t ht,if_neg c1,if_neg (by rw[List.length_append];omega),hlt,hg t (s+v) (by omega),hg t (s+v+1) (by omega),hg t (s+v+2) (by omega),hg t (s+v+3) (by omega),if_pos c3]
    ·exact .inr ⟨22,by decide,h0⟩
 ·refine .inr ⟨e,h1,?_⟩
  unfold ZbG;rw[h2];simp only[Option.bind_some]
  rw[show(e != 0)=true by simpa using h1,cond_true]
theorem ZqU(n:Nat)(h:n<4294967296):sumI ((n% 256:Nat):Int) ((n/256% 256:Nat):Int) ((n/65536% 256:Nat):Int) ((n/16777216% 256:Nat):Int)=n:=by
 unfold sumI
 have w:∀m:Nat,m<4294967296→IntKind.wrap IntKind.u32 (m:Int)=(m:Int):=fun m hm=>wr .u32 rfl m hm
 rw[w (n% 256) (by omega),w (n/256% 256) (by omega),w (n/65536% 256) (by omega),w (n/16777216% 256) (by omega)]
 rw[show((2:Int)^(min (Int.toNat (8:Int)) 32))=((2^8:Nat):Int)from rfl,show((2:Int)^(min (Int.toNat (16:Int)) 32))=((2^16:Nat):Int)from rfl,
  show((2:Int)^(min (Int.toNat (24:Int)) 32))=((2^24:Nat):Int)from rfl,←Int.natCast_mul,←Int.natCast_mul,←Int.natCast_mul]
 rw[w _ (by omega),w _ (by omega),w _ (by omega)]
 rw[Zms .u32 rfl _ _ (by show _<4294967296;omega) (by show _<4294967296;omega),ZnH _ _ 8 (by omega),
  Zms .u32 rfl _ _ (by show _<4294967296;omega) (by show _<4294967296;omega),ZnH _ _ 16 (by omega),
  Zms .u32 rfl _ _ (by show _<4294967296;omega) (by show _<4294967296;omega),ZnH _ _ 24 (by omega)]
 congr 1;omega
theorem ZeT(r:List Int):(Za2 r).length=(putL r.length).length+r.length+4:=by
 unfold Za2 sumB;simp;omega
theorem Zli(r t:List Int)(hr:r.length≤65536)(hl:(Za2 r++t).length≤LIM):ZbG FF (Za2 r++t)=some (r,((Za2 r).length:Int),0):=by
 have hp:=ZeU 9 r.length
 have hs:(putL r.length).length≤10:=hp.2
 have e:Za2 r++t=putL r.length++(r++(sumB (crcN (putL r.length++r))++t)):=by unfold Za2;simp
 have hT:ZbZ FF (Za2 r++t)=some (((r.length:Nat):Int),((putL r.length).length:Int),0):=by rw[e];exact ZiB r.length (by omega) _
 rw[Zjl _ r.length (putL r.length).length hs (by omega) hl hT,if_neg (by omega),if_neg (by rw[List.length_append,ZeT];omega)]
 obtain⟨c1,c2⟩:=Zqm (putL r.length++r)
 have e2:Za2 r++t=(putL r.length++r)++(sumB (crcN (putL r.length++r))++t):=by unfold Za2;simp
 have hk:(Za2 r++t).take ((putL r.length).length+r.length)=putL r.length++r:=by
  rw[e2,List.take_append_of_le_length (by simp),List.take_of_length_le (by simp)]
 have hg:∀j,(Za2 r++t)[(putL r.length).length+r.length+j]? =(sumB (crcN (putL r.length++r))++t)[j]? :=by
  intro j
  rw[e2,List.getElem?_append_right (by simp),List.length_append]
  congr 1;omega
 have h0:=hg 0
 rw[Nat.add_zero]at h0;rw[if_pos]
 ·rw[hk];simp[ZeT]
 ·rw[hk,h0,hg 1,hg 2,hg 3]
  simp only[sumB,List.cons_append,List.getElem?_cons_zero,List.getElem?_cons_succ,Option.getD_some]
  rw[ZqU _ c2,c1]
theorem cI(n:Nat):((n:Int)).toNat=n:=by omega
theorem ZoA(k:Nat)(h:k<9223372036854775808):Zdj FF [Zaf.mk 1 (k:Int) []]=some (0,putL k):=by
 have e:ZbO FF [Zaf.mk 1 (k:Int) []] (3999998+1+1) 0 []=some (.inr (putL k)):=by
  have hp:=ZnC k (by omega) [] (by simp[LIM])
  have hw:IntKind.wrap IntKind.u64 (k:Int)=(k:Int):=by rw[IntKind.wrap_u64];omega
  have hd:decide ((0:Int)≤(k:Int))=true:=by simp
  rw[List.nil_append]at hp;unfold ZbO
  simp only[List.length_cons,List.length_nil,Nat.zero_add,Int.natCast_one,show decide ((0:Int)<1)=true from rfl,cond_true,show decide ((0:Int)≤0)=true from rfl,
   show Int.toNat 0=0 from rfl,List.getElem?_cons_zero,Option.bind_some,show((1:Int)==1)=true from rfl,hd,hw,hp,Sum.elim_inr]
  unfold ZbO
  simp only[List.length_cons,List.length_nil,Nat.zero_add,Int.natCast_one,show IntKind.wrap IntKind.i64 ((0:Int)+1)=1 from by rw[IntKind.wrap_i64];rfl,show decide ((1:Int)<1)=false from rfl,cond_false]
 unfold Zdj
 rw[show ZbO FF [Zaf.mk 1 (k:Int) []] FF 0 []=_ from e]
 rfl
theorem Zmz(b:List Int)(v s:Nat)(h:ZbZ FF b=some ((v:Int),(s:Int),0))(hv:v<18446744073709551616):
 Zcu FF 1 b=some (if v<9223372036854775808 then(Zaf.mk 1 (v:Int) [],(s:Int),0)else(Zaf.mk 1 0 [],0,21)):=by
 unfold Zcu
 simp only[show((1:Int) != 1)=false from rfl,cond_false,Option.bind_some,h,show((0:Int) != 0)=false from rfl,show((1:Int)==1)=true from rfl,cond_true]
 by_cases hq:v<9223372036854775808
 ·have:((Int.fdiv (v:Int) ((2:Int)^(min (Int.toNat (63:Int)) 64))) != 0)=false:=by
   rw[show((2:Int)^(min (Int.toNat (63:Int)) 64))=((9223372036854775808:Nat):Int)from rfl,Int.fdiv_eq_ediv_of_nonneg _ (by omega)]
   rw[show((v:Int)/((9223372036854775808:Nat):Int))=0 by omega];rfl
  rw[this,cond_false,if_pos hq,show IntKind.wrap IntKind.i64 (v:Int)=v by rw[IntKind.wrap_i64];omega]
  rfl
 ·have:((Int.fdiv (v:Int) ((2:Int)^(min (Int.toNat (63:Int)) 64))) != 0)=true:=by
   rw[show((2:Int)^(min (Int.toNat (63:Int)) 64))=((9223372036854775808:Nat):Int)from rfl,Int.fdiv_eq_ediv_of_nonneg _ (by omega)]
   rw[show((v:Int)/((9223372036854775808:Nat):Int))=1 by omega];rfl
  rw[this,cond_true,if_neg hq];rfl
theorem Zqc(b:List Int)(e:Int)(he:e≠0)(h:ZbZ FF b=some (0,0,e)):Zcu FF 1 b=some (Zaf.mk 1 0 [],0,e):=by
 unfold Zcu
 simp only[show((1:Int) != 1)=false from rfl,cond_false,Option.bind_some,h]
 rw[show((e != 0)=true)from by simpa using he,cond_true]
theorem ZmH(b:List Int)(f:Zaf)(s:Nat)(h:Zcu FF 1 b=some (f,(s:Int),0))(hs:s≤b.length):
 Zbe FF [1] b=some (if s<b.length then(21,[])else(0,[f])):=by
 have e:ZaJ FF [1] (3999998+1+1) b 0 []=some (.inr (b.drop s,[f])):=by
  unfold ZaJ
  simp only[List.length_cons,List.length_nil,Nat.zero_add,Int.natCast_one,show decide ((0:Int)<1)=true from rfl,cond_true,show decide ((0:Int)≤0)=true from rfl,
   show Int.toNat 0=0 from rfl,List.getElem?_cons_zero,Option.bind_some,h,show((0:Int) != 0)=false from rfl,cond_false,show decide (1≤LIM)=true from rfl,
   show decide ((0:Int)≤(s:Int))=true from by simp,cI,decide_eq_true hs,Nat.le_refl,decide_true]
  unfold ZaJ
  simp only[List.length_cons,List.length_nil,Nat.zero_add,Int.natCast_one,show IntKind.wrap IntKind.i64 ((0:Int)+1)=1 from by rw[IntKind.wrap_i64];rfl,show decide ((1:Int)<1)=false from rfl,cond_false,List.nil_append]
 unfold Zbe
 rw[show ZaJ FF [1] FF b 0 []=_ from e]
 simp only[Option.bind_some,Sum.elim_inr,List.length_drop]
 by_cases q:s<b.length
 ·rw[decide_eq_true (by omega:(0:Int)<((b.length-s:Nat):Int)),cond_true,if_pos q]
 ·rw[decide_eq_false (by omega:¬(0:Int)<((b.length-s:Nat):Int)),cond_false,if_neg q]
theorem Zk8(b:List Int)(f:Zaf)(s e:Int)(he:e≠0)(h:Zcu FF 1 b=some (f,s,e)):Zbe FF [1] b=some (e,[]):=by
 have e':ZaJ FF [1] (3999999+1) b 0 []=some (.inl (e,[])):=by
  unfold ZaJ
  simp only[List.length_cons,List.length_nil,Nat.zero_add,Int.natCast_one,show decide ((0:Int)<1)=true from rfl,cond_true,show decide ((0:Int)≤0)=true from rfl,
   show Int.toNat 0=0 from rfl,List.getElem?_cons_zero,Option.bind_some,h]
  rw[show((e != 0)=true)from by simpa using he,cond_true]
 unfold Zbe
 rw[show ZaJ FF [1] FF b 0 []=_ from e']
 rfl
theorem ZoE(b:List Int)(hb:Byt b):(∃N:Nat,Zbe FF [1] b=some (0,[Zaf.mk 1 (N:Int) []]))∨(∃e,e≠0∧Zbe FF [1] b=some (e,[])):=by
 rcases Znu b hb with ⟨v,s,h1,h2,h3,h4,h5⟩|⟨e,h1,h2⟩
 ·have ht:=h5 []
  rw[List.append_nil]at ht
  have hf:=Zmz b v s ht h1
  by_cases q:v<9223372036854775808
  ·rw[if_pos q]at hf
   have:=ZmH b _ s hf h4
   by_cases p:s<b.length
   ·rw[if_pos p]at this;exact .inr ⟨_,by decide,this⟩
   ·rw[if_neg p]at this;exact .inl ⟨_,this⟩
  ·rw[if_neg q]at hf
   exact .inr ⟨_,by decide,Zk8 b _ _ _ (by decide) hf⟩
 ·exact .inr ⟨e,h1,Zk8 b _ _ _ h1 (Zqc b e h1 h2)⟩
theorem ZoD(k:Nat)(h:k<9223372036854775808):Zbe FF [1] (putL k)=some (0,[Zaf.mk 1 (k:Int) []]):=by
 have ht:=ZiB k (by omega) []
 rw[List.append_nil]at ht
 have hf:=Zmz _ k _ ht (by omega)
 rw[if_pos h]at hf;rw[ZmH _ _ _ hf (Nat.le_refl _),if_neg (Nat.lt_irrefl _)]
def Fr(b r:List Int)(n:Nat):Prop:=0<n∧n≤b.length∧r.length≤65536∧Byt r∧∀t,(b++t).length≤LIM→ZbG FF (b++t)=some (r,(n:Int),0)
def Un(b:List Int):Prop:=∃e,e≠0∧ZbG FF b=some ([],0,e)
inductive Sc:List Int→List (List Int)→List Int→Prop
 |nil {b:List Int}:Un b→Sc b [] b
 |cons {b r:List Int} {n:Nat} {rs:List (List Int)} {t:List Int}:Fr b r n→Sc (b.drop n) rs t→Sc b (r::rs) t
def Recs(rs:List (List Int)):Prop:=∀r,r∈rs→r.length≤65536∧Byt r
theorem fr_or(b:List Int)(hb:Byt b)(hl:b.length≤LIM):(∃r n,Fr b r n)∨Un b:=by
 rcases ZmS b hb hl with ⟨r,n,h⟩|h
 ·exact .inl ⟨r,n,h⟩
 ·exact .inr h
theorem Fr.one{b r:List Int}{n:Nat}(h:Fr b r n)(hl:b.length≤LIM):ZbG FF b=some (r,(n:Int),0):=by
 have:=h.2.2.2.2 []
 rw[List.append_nil]at this;exact this hl
theorem ZjN(r t:List Int)(hr:r.length≤65536)(hb:Byt r):Fr (Za2 r++t) r (Za2 r).length:=by
 refine⟨by rw[ZeT];omega,by simp,hr,hb,fun u hu=>?_⟩
 rw[List.append_assoc]at hu⊢;exact Zli r (t++u) hr hu
theorem Byt.nil:Byt []:=fun y hy=>by cases hy
theorem Byt.cons{x:Int}{l:List Int}(h1:0≤x∧x≤255)(h:Byt l):Byt (x::l):=fun y hy=>by
 rcases List.mem_cons.1 hy with rfl|hy
 ·exact h1
 ·exact h y hy
theorem Zlu(k n:Nat):Byt (putN k n):=by
 induction k generalizing n with
 |zero=>exact Byt.cons ⟨by omega,by omega⟩ Byt.nil
 |succ k ih=>
  unfold putN;split
  ·exact Byt.cons ⟨by omega,by omega⟩ Byt.nil
  ·exact Byt.cons ⟨by omega,by omega⟩ (ih _)
theorem ZiU(r:List Int)(h:Byt r):Byt (Za2 r):=by
 unfold Za2 sumB putL
 refine Byt.append (Byt.append (Zlu _ _) h) ?_
 exact Byt.cons ⟨by omega,by omega⟩ (Byt.cons ⟨by omega,by omega⟩ (Byt.cons ⟨by omega,by omega⟩ (Byt.cons ⟨by omega,by omega⟩ Byt.nil)))
theorem Zr6(r t:List Int)(hr:r.length≤65536)(hb:Byt r)(hp:t<+:Za2 r)(hne:t.length<(Za2 r).length):Un t:=by
 obtain⟨x,hx⟩:=hp
 have hq:=ZeU 9 r.length
 have hql:(putL r.length).length≤10:=hq.2
 have hfl:=ZeT r
 have hll:(Za2 r).length≤LIM:=by rw[hfl];simp only[LIM];omega
 have hbt:Byt t:=by
  have:=ZiU r hb
  rw[←hx]at this;exact this.left
 rcases fr_or t hbt (by omega)with ⟨r',n,h⟩|h
 ·have h1:=h.2.2.2.2 x (by rw[hx];exact hll)
  rw[hx]at h1
  have h2:=(ZjN r [] hr hb).one (by simpa using hll)
  rw[List.append_nil]at h2;rw[h2]at h1
  injection h1 with h1
  have h3:=congrArg (fun p=>p.2.1) h1
  simp only at h3
  have:=h.2.1
  omega
 ·exact h
theorem ZoY:Un []:=Zr6 [] [] (by simp) Byt.nil (List.nil_prefix) (by rw[ZeT];simp)
theorem Sc.len{b t:List Int}{rs:List (List Int)}(h:Sc b rs t):rs.length+t.length≤b.length∧t.length≤b.length:=by
 induction h with
 |nil _=>simp
 | @cons b r n rs t hf _ ih=>
  have h1:=hf.1
  have h2:=hf.2.1
  rw[List.length_drop]at ih;simp only[List.length_cons];omega
theorem Sc.recs{b t:List Int}{rs:List (List Int)}(h:Sc b rs t):Recs rs:=by
 induction h with
 |nil _=>intro r hr;cases hr
 |cons hf _ ih=>
  intro r hr
  rcases List.mem_cons.1 hr with rfl|hr
  ·exact⟨hf.2.2.1,hf.2.2.2.1⟩
  ·exact ih r hr
theorem Zq0:∀(k:Nat) (b:List Int),b.length≤k→Byt b→b.length≤LIM→∃rs t,Sc b rs t:=by
 intro k
 induction k with
 |zero=>
  intro b hk hb hl
  have:b=[]:=List.eq_nil_of_length_eq_zero (by omega)
  subst this;exact⟨_,_,.nil ZoY⟩
 |succ k ih=>
  intro b hk hb hl
  rcases fr_or b hb hl with ⟨r,n,h⟩|h
  ·have h1:=h.1
   obtain⟨rs,t,hs⟩:=ih (b.drop n) (by rw[List.length_drop];omega) (hb.drop n) (by rw[List.length_drop];omega)
   exact⟨_,_,.cons h hs⟩
  ·exact⟨_,_,.nil h⟩
theorem Zpd(rs:List (List Int))(h:Recs rs)(t:List Int)(ht:Un t):Sc (rs.flatMap Za2++t) rs t:=by
 induction rs with
 |nil=>exact .nil ht
 |cons r rs ih=>
  have hr:=h r (List.mem_cons_self ..)
  rw[List.flatMap_cons,List.append_assoc]
  refine .cons (ZjN r _ hr.1 hr.2) ?_
  rw[List.drop_left]
  exact ih (fun q hq=>h q (List.mem_cons_of_mem _ hq))
theorem Sc.more{b t:List Int}{rs:List (List Int)}(h:Sc b rs t)(ht:t=[])(r:List Int)(hr:r.length≤65536)(hb:Byt r):Sc (b++Za2 r) (rs++[r]) []:=by
 induction h with
 |nil _=>
  subst ht
  have:=ZjN r [] hr hb
  rw[List.append_nil]at this;rw[List.nil_append]
  refine .cons this ?_
  rw[List.drop_length];exact .nil ZoY
 | @cons b r' n rs t hf _ ih=>
  have h2:=hf.2.1
  refine .cons (n:=n) ⟨hf.1,by rw[List.length_append];omega,hf.2.2.1,hf.2.2.2.1,fun u hu=>?_⟩ ?_
  ·rw[List.append_assoc]at hu⊢
   exact hf.2.2.2.2 _ hu
  ·rw[List.drop_append_of_le_length h2]
   exact ih ht
theorem dc(n:Nat):decide ((0:Int)≤(n:Int))=true:=by simp
theorem ZmU(b:List Int)(N:Int)(hL:b.length≤1048576):∀(rs:List (List Int)) (t:List Int) (size m:Nat) (l:List (List Int)),Sc (b.drop size) rs t→size≤b.length→rs.length<m→l.length+rs.length≤1048576→
 ZeZ FF b (0,[Zaf.mk 1 N []]) m (size:Int) l=some (((b.length-t.length:Nat):Int),decide (N≤((l.length+rs.length:Nat):Int)),l++rs):=by
 intro rs
 induction rs with
 |nil=>
  intro t size m l hs hz hm hl
  cases hs with
  |nil hu=>
   obtain⟨e,he,hc⟩:=hu
   obtain⟨m,rfl⟩:∃k,m=k+1:=⟨m-1,by omega⟩
   unfold ZeZ;rw[dc,cond_true,cI,decide_eq_true hz,cond_true,decide_eq_true (Nat.le_refl _),cond_true,hc,Option.bind_some];simp only
   rw[show((e != 0)=true)from by simpa using he,cond_true]
   simp only[show Int.toNat 0=0 from rfl,List.getElem?_cons_zero,Option.bind_some,List.length_map,List.append_nil,List.length_nil,Nat.add_zero,List.length_drop]
   rw[show b.length-(b.length-size)=size by omega]
 |cons r rs ih=>
  intro t size m l hs hz hm hl
  cases hs with
  | @cons _ _ n _ _ hf hs=>
   have h1:=hf.1
   have h2:=hf.2.1
   rw[List.length_drop]at h2
   obtain⟨m,rfl⟩:∃k,m=k+1:=⟨m-1,by omega⟩
   have hc:=hf.one (by rw[List.length_drop];simp only[LIM];omega)
   rw[List.drop_drop]at hs;simp only[List.length_cons]at hm hl;unfold ZeZ;rw[dc,cond_true,cI,decide_eq_true hz,cond_true,decide_eq_true (Nat.le_refl _),cond_true,hc,Option.bind_some]
   simp only[show((0:Int) != 0)=false from rfl,cond_false]
   rw[decide_eq_true (by simp only[LIM];omega),cond_true,show IntKind.wrap IntKind.i64 ((size:Int)+(n:Int))=((size+n:Nat):Int) by rw[IntKind.wrap_i64];omega]
   rw[ih t (size+n) m (l++[r]) hs (by omega) (by omega) (by rw[List.length_append,List.length_singleton];omega)]
   simp only[List.length_append,List.length_nil,List.length_cons,List.append_assoc,List.singleton_append]
   rw[show l.length+(0+1)+rs.length=l.length+(rs.length+1) by omega]
theorem ZkR(b:List Int)(hb:Byt b)(hL:b.length≤1048576):∃(size:Nat) (whole:Bool) (rs:List (List Int)),ZdM FF b=some ((size:Int),whole,rs)∧size≤b.length∧Recs rs∧rs.length≤b.length∧
 (whole=true→size=b.length→∀r,r.length≤65536→Byt r→(b++Za2 r).length≤1048576→ZdM FF (b++Za2 r)=some (((b++Za2 r).length:Int),true,rs++[r])):=by
 have hLIM:b.length≤LIM:=by simp only[LIM];omega
 rcases fr_or b hb hLIM with ⟨h,n,hf⟩|⟨e,he,hc⟩
 ·have hc:=hf.one hLIM
  have h1:=hf.1
  have h2:=hf.2.1
  rcases ZoE h hf.2.2.2.1 with ⟨N,hd⟩|⟨e,he,hd⟩
  ·obtain⟨rs,t,hs⟩:=Zq0 _ (b.drop n) (Nat.le_refl _) (hb.drop n) (by rw[List.length_drop];omega)
   have hlen:=hs.len
   rw[List.length_drop]at hlen
   refine⟨b.length-t.length,decide ((N:Int)≤((0+rs.length:Nat):Int)),rs,?_,by omega,hs.recs,by omega,?_⟩
   ·unfold ZdM
    rw[hc,Option.bind_some]
    simp only[show((0:Int) != 0)=false from rfl,cond_false,hd,Option.bind_some]
    rw[ZmU b N hL rs t n FF [] hs h2 (by show _<4000000;omega) (by simp;omega)]
    simp
   ·intro hw hsz r hr hbr hl'
    have ht:t=[]:=List.eq_nil_of_length_eq_zero (by omega)
    have hs':=hs.more ht r hr hbr
    rw[←List.drop_append_of_le_length h2]at hs'
    have hc':=hf.2.2.2.2 (Za2 r) (by simp only[LIM];omega)
    unfold ZdM;rw[hc',Option.bind_some]
    simp only[show((0:Int) != 0)=false from rfl,cond_false,hd,Option.bind_some]
    have hl2:=hs'.len
    rw[List.length_drop]at hl2
    rw[ZmU (b++Za2 r) N hl' (rs++[r]) [] n FF [] hs' (by rw[List.length_append];omega) (by show _<4000000;omega) (by simp only[List.length_nil];omega)]
    simp only[List.length_nil,Nat.sub_zero,List.nil_append,List.length_append,List.length_singleton,Nat.zero_add]at hw⊢
    have hw:=of_decide_eq_true hw
    rw[decide_eq_true (by omega)]
  ·refine⟨0,false,[],?_,by omega,(fun r hr=>by cases hr),by simp,(fun q=>by cases q)⟩
   unfold ZdM;rw[hc,Option.bind_some]
   simp only[show((0:Int) != 0)=false from rfl,cond_false,hd,Option.bind_some]
   rw[show((e != 0)=true)from by simpa using he,cond_true];rfl
 ·refine⟨0,false,[],?_,by omega,(fun r hr=>by cases hr),by simp,(fun q=>by cases q)⟩
  unfold ZdM;rw[hc,Option.bind_some];simp only
  rw[show((e != 0)=true)from by simpa using he,cond_true];rfl
def logL(k:Nat)(rs:List (List Int))(t:List Int):List Int:=Za2 (putL k)++(rs.flatMap Za2++t)
theorem Zq3(k:Nat)(rs:List (List Int))(t:List Int)(hk:k<9223372036854775808)(hr:Recs rs)(ht:Un t)(hl:(logL k rs t).length≤1048576):
 ZdM FF (logL k rs t)=some ((((logL k rs t).length-t.length:Nat):Int),decide (k≤rs.length),rs):=by
 have hq:=ZeU 9 k
 have hql:(putL k).length≤10:=hq.2
 have hf:=ZjN (putL k) (rs.flatMap Za2++t) (by omega) (Zlu _ _)
 have hc:=hf.one (by show(logL k rs t).length≤LIM;simp only[LIM];omega)
 have hs:Sc ((logL k rs t).drop (Za2 (putL k)).length) rs t:=by
  unfold logL;rw[List.drop_left];exact Zpd rs hr t ht
 have hlen:=hs.len
 rw[List.length_drop]at hlen;unfold ZdM
 rw[show ZbG FF (logL k rs t)=_ from hc,Option.bind_some]
 simp only[show((0:Int) != 0)=false from rfl,cond_false,ZoD k hk,Option.bind_some]
 rw[ZmU (logL k rs t) k hl rs t (Za2 (putL k)).length FF [] hs hf.2.1 (by show _<4000000;omega) (by simp only[List.length_nil];omega)]
 simp
end Go.T
