import Derived.Test.YtjpmdkgonlmddaaGreatDoorSem
set_option linter.unusedVariables false
set_option linter.unusedSimpArgs false
namespace Go.T
open Go Go.Ab
end Go.T
set_option linter.unusedVariables false
set_option linter.unusedSimpArgs false
namespace Go.T
open Go Go.Ab
theorem wr (k:IntKind) (hk:k.signed=false) (n:Nat) (h:n<2 ^ k.bits):k.wrap (n:Int)=n:=by
  simp only [IntKind.wrap,hk]
  have:((n:Int) % (2 ^ k.bits:Int))=n:=Int.emod_eq_of_lt (by omega) (by exact_mod_cast h)
  simpa using this
theorem ZmS (k:IntKind) (hk:k.signed=false) (a b:Nat) (ha:a<2 ^ k.bits) (hb:b<2 ^ k.bits):ibits .or k (a:Int) (b:Int)=((a ||| b:Nat):Int):=by
  unfold ibits
  simp only [BitVec.ofInt_natCast,BitVec.toNat_or,BitVec.toNat_ofNat,Nat.mod_eq_of_lt ha,Nat.mod_eq_of_lt hb]
  exact wr k hk _ (Nat.or_lt_two_pow ha hb)
theorem Znp (k:IntKind) (hk:k.signed=false) (a b:Nat) (ha:a<2 ^ k.bits) (hb:b<2 ^ k.bits):ibits .and k (a:Int) (b:Int)=((a &&& b:Nat):Int):=by
  unfold ibits
  simp only [BitVec.ofInt_natCast,BitVec.toNat_and,BitVec.toNat_ofNat,Nat.mod_eq_of_lt ha,Nat.mod_eq_of_lt hb]
  exact wr k hk _ (Nat.and_lt_two_pow _ hb)
set_option maxRecDepth 20000 in
theorem ZnR (a:Nat) (h:a<256):a ||| 128=a % 128+128:=by
  have:∀ a:Fin 256,a.val ||| 128=a.val % 128+128:=by decide
  exact this ⟨a,h⟩
set_option maxRecDepth 20000 in
theorem ZnC (a:Nat) (h:a<256):a &&& 127=a % 128:=by
  have:∀ a:Fin 256,a.val &&& 127=a.val % 128:=by decide
  exact this ⟨a,h⟩
theorem ZnQ (a b k:Nat) (h:a<2 ^ k):a ||| (b * 2 ^ k)=a+b * 2 ^ k:=by
  rw [Nat.or_comm,Nat.mul_comm,Nat.add_comm,Nat.two_pow_add_eq_or_of_lt h]
end Go.T
set_option linter.unusedVariables false
set_option linter.unusedSimpArgs false
namespace Go.T
open Go Go.Ab
abbrev FF:Nat:=4000000
def putN:Nat→Nat→List Int
  | 0,n=>[((n % 256:Nat):Int)]
  | k+1,n=>if n<128 then [(n:Int)] else ((n % 128+128:Nat):Int)::putN k (n / 128)
def putL (n:Nat):List Int:=putN 9 n
theorem Zml (k n:Nat):1≤(putN k n).length∧(putN k n).length≤k+1:=by
  induction k generalizing n with
  | zero=>simp [putN]
  | succ k ih =>
    unfold putN
    split
    · simp
    · have:=ih (n / 128);simp;omega
theorem ZnP (k : Nat) : ∀ (n m : Nat) (l : List Int), n < 128 ^ (k + 1) → n < 18446744073709551616 → k < m → l.length + k + 1 ≤ LIM →
    ∃ (j:Nat) (t:List Int),Zbx FF m (n:Int) l=some ((j:Int),l++t)∧j<128∧t++[(j:Int)]=putN k n∧t.length≤k:=by
  induction k with
  | zero =>
    intro n m l h _ hm hl
    obtain ⟨m,rfl⟩:∃ q,m=q+1:=⟨m - 1,by omega⟩
    refine ⟨n,[],?_,by simpa using h,?_,by simp⟩
    · simp only [Zbx]
      rw [show decide ((128:Int)≤(n:Int))=false from decide_eq_false (by simp at h;omega)]
      simp
    · simp at h;simp [putN,Nat.mod_eq_of_lt (show n<256 by omega)]
  | succ k ih =>
    intro n m l h h64 hm hl
    obtain ⟨m,rfl⟩:∃ q,m=q+1:=⟨m - 1,by omega⟩
    by_cases hn:n<128
    · refine ⟨n,[],?_,hn,by simp [putN,hn],by simp⟩
      simp only [Zbx]
      rw [show decide ((128:Int)≤(n:Int))=false from decide_eq_false (by omega)]
      simp
    · have hb:ibits BinOp.or IntKind.u8 (IntKind.wrap IntKind.u8 (n:Int)) (128:Int)=((n % 128+128:Nat):Int):=by
        rw [show IntKind.wrap IntKind.u8 (n:Int)=((n % 256:Nat):Int) by rw [IntKind.wrap_u8];omega]
        have:=ZmS .u8 rfl (n % 256) 128 (by show _<256;omega) (by decide)
        rw [ZnR _ (by omega)] at this
        rw [show (128:Int)=((128:Nat):Int) from rfl,this]
        congr 2;omega
      have hd:Int.fdiv (n:Int) ((2:Int) ^ (min (Int.toNat 7) 64))=((n / 128:Nat):Int):=by
        show Int.fdiv (n:Int) 128=_
        rw [Int.fdiv_eq_ediv_of_nonneg _ (by omega)];omega
      obtain ⟨j,t,h1,h2,h3,h4⟩:=ih (n / 128) m (l++[((n % 128+128:Nat):Int)]) (by rw [Nat.pow_succ] at h;omega) (by omega) (by omega) (by simp;omega)
      refine ⟨j,((n % 128+128:Nat):Int)::t,?_,h2,?_,by simp;omega⟩
      · simp only [Zbx]
        rw [show decide ((128:Int)≤(n:Int))=true from decide_eq_true (by omega),cond_true,show decide (l.length+1≤LIM)=true from decide_eq_true (by omega),cond_true,hb,hd]
        rw [h1];simp
      · rw [List.cons_append,h3,putN,if_neg hn]
theorem ZmM (n:Nat) (h:n<18446744073709551616) (l:List Int) (hl:l.length+11≤LIM):Zcu FF (n:Int) l=some (l++putL n):=by
  obtain ⟨j,t,h1,h2,h3,h4⟩:=ZnP 9 n FF l (by simp;omega) h (by decide) (by omega)
  unfold Zcu
  rw [h1]
  simp only [Option.bind_some]
  rw [show decide ((l++t).length+1≤LIM)=true from decide_eq_true (by simp;omega),cond_true]
  rw [show IntKind.wrap IntKind.u8 (j:Int)=(j:Int) by rw [IntKind.wrap_u8];omega]
  rw [List.append_assoc,h3];rfl
end Go.T
set_option linter.unusedVariables false
set_option linter.unusedSimpArgs false
namespace Go.T
open Go Go.Ab
def Byt (b:List Int):Prop:=∀ y,y∈b→0≤y∧y≤255
def acc (x y i:Nat):Nat:=x ||| ((y % 128 * 2 ^ (7 * i)) % 18446744073709551616)
theorem Zn0 (x y i:Nat) (h:x<18446744073709551616):acc x y i<18446744073709551616 :=
  Nat.or_lt_two_pow (n:=64) h (Nat.mod_lt _ (by decide))
theorem Zn1 (x y i : Nat) (hx : x < 18446744073709551616) (hy : y < 256) (hi : i ≤ 9) :
    (@ibits BinOp.or IntKind.u64 (x:Int) (IntKind.wrap IntKind.u64 ((IntKind.wrap IntKind.u64 (@ibits BinOp.and IntKind.u8 (y:Int) (127:Int))) * ((2:Int) ^ (min (Int.toNat (IntKind.wrap IntKind.i64 ((7:Int) * (i:Int)))) 64)))))=(acc x y i:Nat):=by
  have h1:ibits BinOp.and IntKind.u8 (y:Int) (127:Int)=((y % 128:Nat):Int):=by
    rw [show (127:Int)=((127:Nat):Int) from rfl,Znp .u8 rfl y 127 hy (by decide),ZnC y hy]
  have h2:IntKind.wrap IntKind.i64 ((7:Int) * (i:Int))=((7 * i:Nat):Int):=by rw [IntKind.wrap_i64];omega
  rw [h1,h2,Int.toNat_natCast,show min (7 * i) 64=7 * i by omega]
  rw [show IntKind.wrap IntKind.u64 ((y % 128:Nat):Int)=((y % 128:Nat):Int) from wr .u64 rfl _ (by show _<18446744073709551616;omega)]
  have h3:IntKind.wrap IntKind.u64 (((y % 128:Nat):Int) * (2:Int) ^ (7 * i))=(((y % 128 * 2 ^ (7 * i)) % 18446744073709551616:Nat):Int):=by
    rw [show (((y % 128:Nat):Int) * (2:Int) ^ (7 * i))=((y % 128 * 2 ^ (7 * i):Nat):Int) by push_cast;rfl]
    rw [IntKind.wrap_u64]
    omega
  rw [h3]
  exact ZmS .u64 rfl _ _ hx (Nat.mod_lt _ (by decide))
theorem ZjS (b:List Int) (m i:Nat) (x:Int) (h:b.length≤i):Zbc FF b (m+1) x (i:Int)=some (.inr ()):=by
  simp only [Zbc]
  rw [show decide ((i:Int)<(b.length:Int))=false from decide_eq_false (by omega),cond_false]
theorem Zfy (b : List Int) (m i x y : Nat) (h : b[i]? = some (y : Int)) (hx : x < 18446744073709551616) (hy : y < 256) (hi : i ≤ 9) :
    Zbc FF b (m+1) (x:Int) (i:Int) =
      if (i=9∧1<y)∨(0<i∧y=0) then some (.inl (0,0,21))
      else if y<128 then some (.inl ((acc x y i:Nat),((i+1:Nat):Int),0))
      else Zbc FF b m ((acc x y i:Nat):Int) ((i+1:Nat):Int):=by
  have hlt:i<b.length:=(List.getElem?_eq_some_iff.1 h).1
  simp only [Zbc]
  rw [show decide ((i:Int)<(b.length:Int))=true from decide_eq_true (by omega),cond_true,
    show decide ((0:Int)≤(i:Int))=true from decide_eq_true (by omega),cond_true,Int.toNat_natCast,h]
  simp only [Option.bind_some]
  rw [Zn1 x y i hx hy hi]
  have hw:IntKind.wrap IntKind.i64 ((i:Int)+1)=((i+1:Nat):Int):=by rw [IntKind.wrap_i64];omega
  rw [hw]
  have h7:IntKind.wrap IntKind.i64 ((7:Int) * (i:Int))=((7 * i:Nat):Int):=by rw [IntKind.wrap_i64];omega
  rw [h7,show decide ((0:Int)≤((7 * i:Nat):Int))=true from decide_eq_true (by omega),cond_true]
  by_cases h9:i=9
  · subst h9
    by_cases h1:1<y
    · rw [if_pos (.inl ⟨rfl,h1⟩)]
      rw [show decide ((1:Int)<(y:Int))=true from decide_eq_true (by omega)];rfl
    · by_cases h0:y=0
      · subst h0;rfl
      · rw [if_neg (by omega),if_pos (by omega)]
        have:y=1:=by omega
        subst this
        simp
  · have e9:((i:Int)==9)=false:=by simp;omega
    rw [e9,cond_false]
    by_cases h0:0<i
    · rw [show decide ((0:Int)<(i:Int))=true from decide_eq_true (by omega),cond_true]
      simp only [Option.bind_some]
      by_cases hy0:y=0
      · subst hy0;rw [if_pos (.inr ⟨h0,rfl⟩)];rfl
      · rw [if_neg (by omega),show ((y:Int)==0)=false by simp;omega,cond_false]
        by_cases h128:y<128
        · rw [show decide ((y:Int)<128)=true from decide_eq_true (by omega),if_pos h128];rfl
        · rw [show decide ((y:Int)<128)=false from decide_eq_false (by omega),if_neg h128];rfl
    · rw [show decide ((0:Int)<(i:Int))=false from decide_eq_false (by omega),cond_false]
      simp only [Option.bind_some,cond_false]
      rw [if_neg (by omega)]
      by_cases h128:y<128
      · rw [show decide ((y:Int)<128)=true from decide_eq_true (by omega),if_pos h128];rfl
      · rw [show decide ((y:Int)<128)=false from decide_eq_false (by omega),if_neg h128];rfl
end Go.T
set_option linter.unusedVariables false
set_option linter.unusedSimpArgs false
namespace Go.T
open Go Go.Ab
theorem ZhF {b:List Int} (hb:Byt b) {i:Nat} (h:i<b.length):∃ y:Nat,b[i]? = some (y:Int)∧y<256:=by
  have:=hb b[i] (List.getElem_mem h)
  exact ⟨b[i].toNat,by rw [List.getElem?_eq_getElem h];congr 1;omega,by omega⟩
end Go.T
set_option linter.unusedVariables false
set_option linter.unusedSimpArgs false
namespace Go.T
open Go Go.Ab
theorem ZjL (x y i:Nat) (hx:x<2 ^ (7 * i)) (hy:y % 128 * 2 ^ (7 * i)<18446744073709551616):acc x y i=x+y % 128 * 2 ^ (7 * i):=by
  unfold acc
  rw [Nat.mod_eq_of_lt hy,ZnQ _ _ _ hx]
theorem Zk5 : ∀ (k i x n m : Nat) (b t : List Int), i + k = 9 → k < m → x < 2 ^ (7 * i) → n * 2 ^ (7 * i) < 18446744073709551616 → (0 < i → 0 < n) → b.drop i = putN k n ++ t →
    Zbc FF b m (x:Int) (i:Int)=some (.inl (((x+n * 2 ^ (7 * i):Nat):Int),((i+(putN k n).length:Nat):Int),0)):=by
  intro k
  induction k with
  | zero =>
    intro i x n m b t hi hm hx hn h0 hd
    obtain ⟨m,rfl⟩:∃ q,m=q+1:=⟨m - 1,by omega⟩
    obtain rfl:i=9:=by omega
    have hn2:n<2:=by omega
    have hn1:n=1:=by have:=h0 (by decide);omega
    subst hn1
    have hg:b[9]? = some ((1:Nat):Int):=by
      have:=congrArg (fun l=>l[0]?) hd
      simpa [List.getElem?_drop,putN] using this
    rw [Zfy b m 9 x 1 hg (by omega) (by decide) (by decide),if_neg (by omega),if_pos (by decide),ZjL x 1 9 hx (by decide)]
    rfl
  | succ k ih =>
    intro i x n m b t hi hm hx hn h0 hd
    obtain ⟨m,rfl⟩:∃ q,m=q+1:=⟨m - 1,by omega⟩
    have hp:0<2 ^ (7 * i):=Nat.pow_pos (by decide)
    have hxx:x<18446744073709551616:=by
      have:2 ^ (7 * i)≤2 ^ 63:=Nat.pow_le_pow_right (by decide) (by omega)
      omega
    by_cases h128:n<128
    · have hpn:putN (k+1) n=[(n:Int)]:=by simp [putN,h128]
      rw [hpn] at hd ⊢
      have hg:b[i]? = some (n:Int):=by
        have:=congrArg (fun l=>l[0]?) hd
        simpa [List.getElem?_drop] using this
      have hm128:n % 128=n:=Nat.mod_eq_of_lt h128
      rw [Zfy b m i x n hg hxx (by omega) (by omega),if_neg (by omega),if_pos h128,ZjL x n i hx (by rw [hm128];exact hn),hm128]
      rfl
    · have hpn:putN (k+1) n=((n % 128+128:Nat):Int)::putN k (n / 128):=by rw [putN,if_neg h128]
      rw [hpn] at hd ⊢
      have hg:b[i]? = some ((n % 128+128:Nat):Int):=by
        have:=congrArg (fun l=>l[0]?) hd
        simpa [List.getElem?_drop] using this
      have hd2:b.drop (i+1)=putN k (n / 128)++t:=by
        have:=congrArg (List.drop 1) hd
        simpa [List.drop_drop] using this
      have hm128:(n % 128+128) % 128=n % 128:=by omega
      have hle:n % 128 * 2 ^ (7 * i)≤n * 2 ^ (7 * i):=Nat.mul_le_mul_right _ (Nat.mod_le _ _)
      have hpow:2 ^ (7 * (i+1))=128 * 2 ^ (7 * i):=by rw [Nat.mul_add,Nat.pow_add,Nat.mul_comm]
      have hsum:n * 2 ^ (7 * i)=n % 128 * 2 ^ (7 * i)+n / 128 * 2 ^ (7 * (i+1)):=by
        rw [hpow,← Nat.mul_assoc,← Nat.add_mul]
        congr 1;omega
      have hacc:=ZjL x (n % 128+128) i hx (by rw [hm128];omega)
      rw [hm128] at hacc
      have hlt2:n % 128 * 2 ^ (7 * i)≤127 * 2 ^ (7 * i):=Nat.mul_le_mul_right _ (by omega)
      rw [Zfy b m i x (n % 128+128) hg hxx (by omega) (by omega),if_neg (by omega),if_neg (by omega),hacc,
        ih (i+1) (x+n % 128 * 2 ^ (7 * i)) (n / 128) m b t (by omega) (by omega) (by omega) (by omega) (fun _=>by omega) hd2]
      rw [List.length_cons,hsum]
      congr 4<;>omega
theorem Zik (n:Nat) (h:n<18446744073709551616) (t:List Int):Zdo FF (putL n++t)=some ((n:Int),((putL n).length:Int),0):=by
  have:=Zk5 9 0 0 n FF (putL n++t) t rfl (by decide) (by decide) (by simpa using h) (by omega) rfl
  unfold Zdo
  simp only [Int.natCast_zero,Nat.zero_add,Nat.mul_zero,Nat.pow_zero,Nat.mul_one] at this
  rw [this];rfl
end Go.T
