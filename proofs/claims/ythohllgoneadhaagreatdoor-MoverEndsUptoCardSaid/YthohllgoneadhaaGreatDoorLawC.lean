import Derived.Test.YthohllgoneadhaaGreatDoorSem
import Derived.KernelRfl
import Derived.Lib.Join
import Derived.Test.YthohllgoneadhaaGreatDoorLStrA
import Derived.Test.YthohllgoneadhaaGreatDoorLawB
set_option linter.unusedVariables false
set_option linter.unusedSimpArgs false
namespace Go.T.Cr
open Go Go.Ab Go.Proofs Go.T
theorem full0 (F:Nat):ZcC F 0=some 1152921504606846975:=rfl
theorem full1 (F:Nat):ZcC F 1=some 16777215:=rfl
theorem full2 (F:Nat):ZcC F 2=some 4294967294:=rfl
theorem full3 (F:Nat):ZcC F 3=some 8190:=rfl
theorem full4 (F:Nat):ZcC F 4=some 127:=rfl
def okF (b full:Int):Bool:=b != 0 && ibits BinOp.andNot IntKind.u64 b full==0
def chkB (c:ZbI):Bool :=
  okF c.Minute 1152921504606846975 && okF c.Hour 16777215 && okF c.Day 4294967294 && okF c.Month 8190 && okF c.Week 127 &&
    (!c.AnyDay || c.Day==4294967294) && (!c.AnyWeek || c.Week==127)
theorem Zg2 (F n : Nat) (a : Zcu) (i : Int) (b f : Int) (h0 : 0 ≤ i) (h5 : i < 5) (hf : ZcC F i = some f)
    (hb:b=if i=0 then a.e0 else if i=1 then a.e1 else if i=2 then a.e2 else if i=3 then a.e3 else a.e4) :
    ZcD F a (n+1) i=bif okF b f then ZcD F a n (i+1) else some (.inl false):=by
  rw [ZcD.eq_2,hf]
  have hw:IntKind.wrap IntKind.i64 (i+1)=i+1:=by simp [IntKind.wrap,IntKind.signed,IntKind.bits];omega
  rw [hw]
  have h:i=0∨i=1∨i=2∨i=3∨i=4:=by omega
  have e:(bif decide ((0:Int)≤i) then (bif decide (i<5) then (bif i==0 then some a.e0 else bif i==1 then some a.e1 else bif i==2 then some a.e2 else bif i==3 then some a.e3 else bif i==4 then some a.e4 else none) else none) else none)=some b:=by
    rcases h with rfl | rfl | rfl | rfl | rfl<;>(subst hb;rfl)
  rw [e]
  clear e hb h hw
  simp only [h5,decide_true,cond_true,Option.bind_some,okF,bne]
  cases (b==0)<;>cases (ibits BinOp.andNot IntKind.u64 b f==0)<;>rfl
theorem Zpi (k:Nat) (c:ZbI):Zfn (k+6) c=some (chkB c):=by
  have h0:=Zg2 (k+6) (k+5) ⟨c.Minute,c.Hour,c.Day,c.Month,c.Week⟩ 0 _ _ (by decide) (by decide) (full0 _) rfl
  have h1:=Zg2 (k+6) (k+4) ⟨c.Minute,c.Hour,c.Day,c.Month,c.Week⟩ 1 _ _ (by decide) (by decide) (full1 _) rfl
  have h2:=Zg2 (k+6) (k+3) ⟨c.Minute,c.Hour,c.Day,c.Month,c.Week⟩ 2 _ _ (by decide) (by decide) (full2 _) rfl
  have h3:=Zg2 (k+6) (k+2) ⟨c.Minute,c.Hour,c.Day,c.Month,c.Week⟩ 3 _ _ (by decide) (by decide) (full3 _) rfl
  have h4:=Zg2 (k+6) (k+1) ⟨c.Minute,c.Hour,c.Day,c.Month,c.Week⟩ 4 _ _ (by decide) (by decide) (full4 _) rfl
  have h5:ZcD (k+6) ⟨c.Minute,c.Hour,c.Day,c.Month,c.Week⟩ (k+1) 5=some (.inr ()):=rfl
  simp only [show (0:Int)+1=1 from rfl,show (1:Int)+1=2 from rfl,show (2:Int)+1=3 from rfl,show (3:Int)+1=4 from rfl,show (4:Int)+1=5 from rfl] at h0 h1 h2 h3 h4
  simp only [if_true,show ¬ (1:Int)=0 by decide,show ¬ (2:Int)=0 by decide,show ¬ (3:Int)=0 by decide,show ¬ (4:Int)=0 by decide,show ¬ (2:Int)=1 by decide,show ¬ (3:Int)=1 by decide,
    show ¬ (4:Int)=1 by decide,show ¬ (3:Int)=2 by decide,show ¬ (4:Int)=2 by decide,show ¬ (4:Int)=3 by decide,if_false] at h0 h1 h2 h3 h4
  unfold Zfn Zek
  simp only [Option.bind_some,h0,h1,h2,h3,h4,h5,full2,full4,chkB]
  cases okF c.Minute 1152921504606846975<;>cases okF c.Hour 16777215<;>cases okF c.Day 4294967294<;>cases okF c.Month 8190<;>cases okF c.Week 127<;>try rfl
  cases c.AnyDay<;>cases c.AnyWeek<;>simp
  all_goals cases c.Day==4294967294<;>rfl
theorem wrap_u64 (n:Nat) (h:n<2 ^ 64):IntKind.wrap .u64 (n:Int)=n:=by
  simp only [IntKind.wrap,IntKind.signed,IntKind.bits]
  simp
  omega
theorem Zer (a:Nat):BitVec.ofInt 64 (a:Int)=BitVec.ofNat 64 a:=by simp [BitVec.ofInt_natCast]
theorem ib_or (a b:Nat) (ha:a<2 ^ 64) (hb:b<2 ^ 64):ibits .or .u64 (a:Int) (b:Int)=((a ||| b:Nat):Int):=by
  have:(BitVec.ofInt (IntKind.bits .u64) (a:Int) ||| BitVec.ofInt (IntKind.bits .u64) (b:Int)).toNat=a ||| b:=by
    show (BitVec.ofInt 64 (a:Int) ||| BitVec.ofInt 64 (b:Int)).toNat=_
    rw [Zer,Zer,BitVec.toNat_or,BitVec.toNat_ofNat,BitVec.toNat_ofNat,Nat.mod_eq_of_lt ha,Nat.mod_eq_of_lt hb]
  unfold ibits
  simp only [this]
  exact wrap_u64 _ (Nat.or_lt_two_pow ha hb)
theorem ZqZ (a b:Nat) (ha:a<2 ^ 64) (hb:b<2 ^ 64):ibits .and .u64 (a:Int) (b:Int)=((a &&& b:Nat):Int):=by
  have:(BitVec.ofInt (IntKind.bits .u64) (a:Int) &&& BitVec.ofInt (IntKind.bits .u64) (b:Int)).toNat=a &&& b:=by
    show (BitVec.ofInt 64 (a:Int) &&& BitVec.ofInt 64 (b:Int)).toNat=_
    rw [Zer,Zer,BitVec.toNat_and,BitVec.toNat_ofNat,BitVec.toNat_ofNat,Nat.mod_eq_of_lt ha,Nat.mod_eq_of_lt hb]
  unfold ibits
  simp only [this]
  exact wrap_u64 _ (Nat.and_lt_two_pow _ hb)
def diffN (a b:Nat):Nat:=(BitVec.ofNat 64 a &&& ~~~BitVec.ofNat 64 b).toNat
theorem Zpe (a b:Nat):diffN a b<2 ^ 64:=BitVec.isLt _
theorem ZpB (a b:Nat):ibits .andNot .u64 (a:Int) (b:Int)=(diffN a b:Int):=by
  have:(BitVec.ofInt (IntKind.bits .u64) (a:Int) &&& ~~~BitVec.ofInt (IntKind.bits .u64) (b:Int)).toNat=diffN a b:=by
    show (BitVec.ofInt 64 (a:Int) &&& ~~~BitVec.ofInt 64 (b:Int)).toNat=_
    rw [Zer,Zer];rfl
  unfold ibits
  simp only [this]
  exact wrap_u64 _ (Zpe a b)
theorem Zin (a b i:Nat) (ha:a<2 ^ 64) (hb:b<2 ^ 64):(diffN a b).testBit i=(a.testBit i && !b.testBit i):=by
  unfold diffN
  by_cases hi:i<64
  · rw [← BitVec.getLsbD,BitVec.getLsbD_and,BitVec.getLsbD_not]
    have e1:a % 18446744073709551616=a:=Nat.mod_eq_of_lt ha
    have e2:b % 18446744073709551616=b:=Nat.mod_eq_of_lt hb
    simp [BitVec.getLsbD,hi,e1,e2]
  · rw [Nat.testBit_lt_two_pow (Nat.lt_of_lt_of_le (BitVec.isLt _) (Nat.pow_le_pow_right (by decide) (by omega))),Nat.testBit_lt_two_pow (Nat.lt_of_lt_of_le ha (Nat.pow_le_pow_right (by decide) (by omega)))]
    rfl
theorem ZiR (a b:Nat) (ha:a<2 ^ 64) (hb:b<2 ^ 64):diffN a b=0↔∀ i,a.testBit i=true→b.testBit i=true:=by
  constructor
  · intro h i hi
    have:=Zin a b i ha hb
    rw [h,Nat.zero_testBit,hi] at this
    simpa using this
  · intro h
    apply Nat.eq_of_testBit_eq
    intro i
    rw [Zin a b i ha hb,Nat.zero_testBit]
    have q:=h i
    clear h
    revert q
    cases a.testBit i<;>cases b.testBit i<;>simp
theorem Zk1 (a f:Nat) (ha:a<2 ^ 64) (hf:f<2 ^ 64):okF a f=true↔a≠0∧∀ i,a.testBit i=true→f.testBit i=true:=by
  unfold okF
  rw [ZpB,Bool.and_eq_true]
  constructor
  · rintro ⟨h1,h2⟩
    refine ⟨by simpa using h1,(ZiR a f ha hf).1 ?_⟩
    have:=beq_iff_eq.1 h2
    omega
  · rintro ⟨h1,h2⟩
    refine ⟨by simpa using h1,?_⟩
    rw [(ZiR a f ha hf).2 h2];rfl
theorem wrap_i64 (n:Int) (h0 : -9223372036854775808≤n) (h1:n<9223372036854775808):IntKind.wrap .i64 n=n:=by
  simp only [IntKind.wrap,IntKind.signed,IntKind.bits]
  simp
  omega
def numB (n:Nat):List UInt8:=if n<10 then [UInt8.ofNat (48+n)] else [UInt8.ofNat (48+n / 10),UInt8.ofNat (48+n % 10)]
theorem ZoN:∀ n:Nat,n<60→Lib.itoa (n:Int)=numB n:=by decide +kernel
theorem ZhI (n:Nat):1≤(numB n).length∧(numB n).length≤2:=by unfold numB;split<;>simp
def word (n e:Nat):List UInt8:=if n<e then numB n++([45]++numB e) else numB n
theorem Zow (n e:Nat):1≤(word n e).length∧(word n e).length≤5:=by
  have a:=ZhI n
  have b:=ZhI e
  unfold word
  split
  · simp;omega
  · omega
def start (b i:Nat):Bool:=b.testBit i && (i==0 || !b.testBit (i - 1))
def EndAt (b k e:Nat):Prop:=k≤e∧(∀ i,k<i→i≤e→b.testBit i=true)∧b.testBit (e+1)=false
inductive WL (b:Nat):Nat→List (List UInt8)→Prop
  | done (p:Nat) (h:∀ i,p≤i→start b i=false):WL b p []
  | cons (p n e:Nat) (L:List (List UInt8)) (h1:p≤n) (h2:∀ i,p≤i→i<n→start b i=false) (h3:start b n=true) (h4:EndAt b n e) (h5:WL b (n+1) L):WL b p (word n e::L)
theorem WL.back {b p q:Nat} {L:List (List UInt8)} (hpq:p≤q) (hn:∀ i,p≤i→i<q→start b i=false) (h:WL b q L):WL b p L:=by
  cases h with
  | done _ h =>
    refine .done p fun i hi=>?_
    by_cases hq:i<q
    · exact hn i hi hq
    · exact h i (by omega)
  | cons _ n e L h1 h2 h3 h4 h5 =>
    refine .cons p n e L (by omega) (fun i hi hi'=>?_) h3 h4 h5
    by_cases hq:i<q
    · exact hn i hi hq
    · exact h2 i (by omega) hi'
theorem WL.len {b p:Nat} {L:List (List UInt8)} (hb:b<2 ^ 60) (h:WL b p L):L.length+p≤60+p∧(p≤60→L.length+p≤60):=by
  induction h with
  | done p _=>simp
  | cons p n e L h1 h2 h3 h4 h5 ih =>
    have hn:n<60:=by
      apply Classical.byContradiction
      intro q
      have:b.testBit n=false:=Nat.testBit_lt_two_pow (Nat.lt_of_lt_of_le hb (Nat.pow_le_pow_right (by decide) (by omega)))
      unfold start at h3
      rw [this] at h3;cases h3
    have:=ih.2 (by omega)
    simp only [List.length_cons]
    omega
theorem Zl5 (x:Nat) (h0:x≠0) (h:x<2 ^ 64):∃ n,Lib.ctz 64 x=n∧n<64∧x.testBit n=true∧∀ i,i<n→x.testBit i=false:=by
  obtain ⟨m,hm,hlt⟩:=Lib.ctzFrom_spec 64 x (by omega) h
  have e:Lib.ctz 64 x=Lib.ctzFrom 64 x:=by unfold Lib.ctz;rw [if_neg h0]
  rw [e]
  generalize Lib.ctzFrom 64 x=n at hm hlt
  refine ⟨n,rfl,hlt,?_,fun i hi=>?_⟩
  · rw [hm,Nat.testBit_two_pow_mul]
    simp [Nat.testBit_zero]
  · rw [hm,Nat.testBit_two_pow_mul]
    have:¬ n≤i:=by omega
    simp [this]
theorem Zlx (F x:Nat) (h:x<2 ^ 64):Zbp F (x:Int)=some ((Lib.ctz 64 x:Nat):Int):=by
  unfold Zbp
  rw [decide_eq_true (show (0:Int)≤(x:Int)∧(x:Int)<18446744073709551616 by omega),cond_true,Int.toNat_natCast]
theorem ZnJ (F n:Nat) (h:n<60):strconv_Itoa F (n:Int)=some (numB n):=by
  unfold strconv_Itoa
  rw [decide_eq_true (show (-9223372036854775808:Int)≤(n:Int)∧(n:Int)≤9223372036854775807 by omega),cond_true,ZoN n h]
theorem ZqK (a:Nat):ibits BinOp.xor IntKind.u64 (if ((IntKind.signed IntKind.u64)=true) then (-1:Int) else (IntKind.max IntKind.u64)) (a:Int)=(((~~~ BitVec.ofNat 64 a).toNat:Nat):Int):=by
  have e:(if ((IntKind.signed IntKind.u64)=true) then (-1:Int) else (IntKind.max IntKind.u64))=((2 ^ 64 - 1:Nat):Int):=by decide
  rw [e]
  have:(BitVec.ofInt (IntKind.bits .u64) ((2 ^ 64 - 1:Nat):Int) ^^^ BitVec.ofInt (IntKind.bits .u64) (a:Int)).toNat=(~~~ BitVec.ofNat 64 a).toNat:=by
    show (BitVec.ofInt 64 ((2 ^ 64 - 1:Nat):Int) ^^^ BitVec.ofInt 64 (a:Int)).toNat=_
    rw [Zer,Zer]
    congr 1
  unfold ibits
  simp only [this]
  exact wrap_u64 _ (BitVec.isLt _)
theorem Zk2 (a i:Nat) (ha:a<2 ^ 64) (hi:i<64):((~~~ BitVec.ofNat 64 a).toNat).testBit i = !a.testBit i:=by
  rw [← BitVec.getLsbD,BitVec.getLsbD_not]
  have e1:a % 18446744073709551616=a:=Nat.mod_eq_of_lt ha
  simp [BitVec.getLsbD,hi,e1]
theorem Zqh (a n:Nat) (hn:n<64):Int.fdiv (a:Int) ((2:Int) ^ (min (Int.toNat (n:Int)) 64))=((a >>> n:Nat):Int):=by
  rw [Int.toNat_natCast,Nat.min_eq_left (by omega),show ((2:Int) ^ n)=((2 ^ n:Nat):Int) by simp,Int.fdiv_eq_ediv_of_nonneg _ (Int.natCast_nonneg _),Nat.shiftRight_eq_div_pow]
  rfl
theorem Zrb (F n r:Nat) (hr:1≤r) (h:n+r≤60):ZdP F (n:Int) ((n+r - 1:Nat):Int)=some ((2 ^ n * (2 ^ r - 1):Nat):Int):=by
  unfold ZdP
  have w:IntKind.wrap .i64 (((n+r - 1:Nat):Int)+1)=((n+r:Nat):Int):=by rw [wrap_i64 _ (by omega) (by omega)];omega
  rw [w,decide_eq_true (show (0:Int)≤((n+r:Nat):Int) by omega),decide_eq_true (show (0:Int)≤(n:Int) by omega)]
  simp only [cond_true]
  have p1:(2:Nat) ^ (n+r)<2 ^ 64:=Nat.pow_lt_pow_right (by decide) (by omega)
  have p2:(2:Nat) ^ n<2 ^ 64:=Nat.pow_lt_pow_right (by decide) (by omega)
  have p3:(2:Nat) ^ n≤2 ^ (n+r):=Nat.pow_le_pow_right (by decide) (by omega)
  have e:∀ k:Nat,k<64→IntKind.wrap .u64 ((1:Int) * (2:Int) ^ (min (Int.toNat (k:Int)) 64))=((2 ^ k:Nat):Int):=by
    intro k hk
    rw [Int.toNat_natCast,Nat.min_eq_left (by omega),Int.one_mul,show ((2:Int) ^ k)=((2 ^ k:Nat):Int) by simp]
    exact wrap_u64 _ (Nat.pow_lt_pow_right (by decide) hk)
  rw [e (n+r) (by omega),e n (by omega),show ((2 ^ (n+r):Nat):Int) - ((2 ^ n:Nat):Int)=((2 ^ (n+r) - 2 ^ n:Nat):Int) by omega,wrap_u64 _ (Nat.lt_of_le_of_lt (Nat.sub_le _ _) p1)]
  congr 3
  rw [Nat.mul_sub,Nat.mul_one,Nat.pow_add]
theorem Zqz (n r i:Nat):(2 ^ n * (2 ^ r - 1)).testBit i=(decide (n≤i) && decide (i<n+r)):=by
  rw [Nat.testBit_two_pow_mul,Nat.testBit_two_pow_sub_one]
  by_cases h:n≤i
  · simp [h];omega
  · simp [h]
theorem Zn7 (b : Nat) (hb : b < 2 ^ 60) : ∀ (fuel p c : Nat) (out : List (List UInt8)), c < 2 ^ 60 → (∀ i, c.testBit i = (decide (p ≤ i) && b.testBit i)) → (p = 0 ∨ b.testBit p = false) → p ≤ 60 → 61 - p < fuel → out.length ≤ p →
    ∃ L,ZdS 4000000 fuel (c:Int) out=some (out++L)∧WL b p L:=by
  have hbig:∀ i,60≤i→b.testBit i=false:=fun i hi=>Nat.testBit_lt_two_pow (Nat.lt_of_lt_of_le hb (Nat.pow_le_pow_right (by decide) hi))
  intro fuel
  induction fuel with
  | zero=>intro p c out _ _ _ _ h;omega
  | succ fuel ih =>
    intro p c out hc hbits hp hp60 hf hout
    have hc64:c<2 ^ 64:=Nat.lt_trans hc (by decide)
    rw [ZdS.eq_2]
    by_cases h0:c=0
    · subst h0
      refine ⟨[],by simp,.done p fun i hi=>?_⟩
      have:=hbits i
      rw [Nat.zero_testBit,decide_eq_true hi,Bool.true_and] at this
      unfold start
      rw [← this];rfl
    · rw [show ((c:Int) != 0)=true by simpa using h0,cond_true,Zlx _ c hc64,Option.bind_some]
      obtain ⟨n,hn,hn64,hnb,hlow⟩:=Zl5 c h0 hc64
      rw [hn]
      have hn1:=hbits n
      rw [hnb] at hn1
      have hpn:p≤n:=by
        apply Classical.byContradiction
        intro q
        rw [decide_eq_false q] at hn1;cases hn1
      have hbn:b.testBit n=true:=by
        rw [decide_eq_true hpn,Bool.true_and] at hn1;exact hn1.symm
      have hn60:n<60:=by
        apply Classical.byContradiction
        intro q
        rw [hbig n (by omega)] at hbn;cases hbn
      rw [decide_eq_true (show (0:Int)≤(n:Int) by omega),cond_true,Zqh c n hn64]
      have hs60:c >>> n<2 ^ 60:=Nat.lt_of_le_of_lt (Nat.shiftRight_le _ _) hc
      have hs64:c >>> n<2 ^ 64:=Nat.lt_trans hs60 (by decide)
      rw [ZqK]
      have hx0:(~~~ BitVec.ofNat 64 (c >>> n)).toNat≠0:=by
        intro e
        have:=Zk2 (c >>> n) 63 hs64 (by decide)
        rw [e,Nat.zero_testBit,Nat.testBit_lt_two_pow (Nat.lt_of_lt_of_le hs60 (by decide))] at this
        cases this
      rw [Zlx _ _ (BitVec.isLt _),Option.bind_some]
      obtain ⟨r,hr,hr64,hrb,hrlow⟩:=Zl5 _ hx0 (BitVec.isLt _)
      rw [hr,ZnJ _ n hn60,Option.bind_some]
      have hbit:∀ i,(c >>> n).testBit i=c.testBit (n+i):=fun i=>by rw [Nat.testBit_shiftRight]
      have hr1:c.testBit (n+r)=false:=by
        have:=Zk2 (c >>> n) r hs64 hr64
        rw [hrb,hbit] at this
        cases hq:c.testBit (n+r)
        · rfl
        · rw [hq] at this;cases this
      have hr2:∀ i,i<r→c.testBit (n+i)=true:=fun i hi=>by
        have:=Zk2 (c >>> n) i hs64 (by omega)
        rw [hrlow i hi,hbit] at this
        cases hq:c.testBit (n+i)
        · rw [hq] at this;cases this
        · rfl
      have hr0:1≤r:=by
        apply Classical.byContradiction
        intro q
        have:r=0:=by omega
        subst this
        rw [Nat.add_zero,hnb] at hr1;cases hr1
      have hnr:n+r≤60:=by
        apply Classical.byContradiction
        intro q
        have:=hr2 (r - 1) (by omega)
        rw [Nat.testBit_lt_two_pow (Nat.lt_of_lt_of_le hc (Nat.pow_le_pow_right (by decide) (by omega)))] at this;cases this
      have w1:IntKind.wrap .i64 ((IntKind.wrap .i64 ((n:Int)+(r:Int))) - 1)=((n+r - 1:Nat):Int):=by
        rw [wrap_i64 ((n:Int)+r) (by omega) (by omega),wrap_i64 _ (by omega) (by omega)];omega
      rw [w1]
      have la:=ZhI n
      have lb:=ZhI (n+r - 1)
      have hword:(bif (decide ((1:Int)<(r:Int))) then (Option.bind (strconv_Itoa 4000000 ((n+r - 1:Nat):Int)) fun y_27=>(bif decide (((List.length ([45]:List UInt8))+(List.length y_27))≤9223372036854775807) then (bif decide (((List.length (numB n))+(List.length (([45]:List UInt8)++y_27)))≤9223372036854775807) then some (numB n++(([45]:List UInt8)++y_27)) else none) else none)) else some (numB n))=some (word n (n+r - 1)):=by
        unfold word
        by_cases h1:1<r
        · rw [decide_eq_true (show (1:Int)<(r:Int) by omega),cond_true,ZnJ _ (n+r - 1) (by omega),Option.bind_some,decide_eq_true (by simp;omega),cond_true,decide_eq_true (by simp;omega),cond_true,if_pos (by omega)]
        · rw [decide_eq_false (show ¬ (1:Int)<(r:Int) by omega),cond_false,if_neg (by omega)]
      rw [hword,Option.bind_some,decide_eq_true (show out.length+1≤LIM by unfold LIM;omega),cond_true,Zrb _ n r hr0 hnr,Option.bind_some,ZpB]
      have hc2bit:∀ i,(diffN c (2 ^ n * (2 ^ r - 1))).testBit i=(decide (n+r≤i) && b.testBit i):=by
        intro i
        have hlt:2 ^ n * (2 ^ r - 1)<2 ^ 64:=by
          have h1:2 ^ n * (2 ^ r - 1)<2 ^ n * 2 ^ r:=Nat.mul_lt_mul_of_pos_left (by have:=Nat.two_pow_pos r;omega) (Nat.two_pow_pos n)
          rw [← Nat.pow_add] at h1
          exact Nat.lt_trans h1 (Nat.pow_lt_pow_right (by decide) (by omega))
        rw [Zin _ _ _ hc64 hlt,Zqz]
        by_cases q1:n+r≤i
        · rw [hbits i,decide_eq_true q1,decide_eq_true (show p≤i by omega),decide_eq_false (show ¬ i<n+r by omega)]
          simp
        · rw [decide_eq_false q1]
          by_cases q2:n≤i
          · rw [decide_eq_true q2,decide_eq_true (show i<n+r by omega)];simp
          · rw [hlow i (by omega)];simp
      have hc2:diffN c (2 ^ n * (2 ^ r - 1))<2 ^ 60:=by
        apply Nat.lt_pow_two_of_testBit
        intro i hi
        rw [hc2bit i,hbig i hi,Bool.and_false]
      have hbe:b.testBit (n+r)=false:=by
        have:=hbits (n+r)
        rw [hr1,decide_eq_true (show p≤n+r by omega),Bool.true_and] at this
        exact this.symm
      obtain ⟨L,hL,hW⟩:=ih (n+r) (diffN c (2 ^ n * (2 ^ r - 1))) (out++[word n (n+r - 1)]) hc2 hc2bit (.inr hbe) hnr (by omega) (by simp;omega)
      refine ⟨word n (n+r - 1)::L,by rw [hL];simp,?_⟩
      have hbr:∀ i,i<r→b.testBit (n+i)=true:=fun i hi=>by
        have:=hbits (n+i)
        rw [hr2 i hi,decide_eq_true (show p≤n+i by omega),Bool.true_and] at this
        exact this.symm
      have hstart:start b n=true:=by
        unfold start
        rw [hbn,Bool.true_and]
        by_cases hz:n=0
        · subst hz;rfl
        · have:b.testBit (n - 1)=false:=by
            by_cases hpe:p=n
            · subst hpe
              rcases hp with hp | hp
              · omega
              · rw [hp] at hbn;cases hbn
            · have:=hbits (n - 1)
              rw [hlow (n - 1) (by omega),decide_eq_true (show p≤n - 1 by omega),Bool.true_and] at this
              exact this.symm
          rw [this];simp
      refine .cons p n (n+r - 1) L hpn (fun i hi hi'=>?_) hstart ⟨by omega,fun i h1 h2=>?_,by rw [show n+r - 1+1=n+r by omega];exact hbe⟩ (hW.back (by omega) fun i hi hi'=>?_)
      · have:=hbits i
        rw [hlow i hi',decide_eq_true hi,Bool.true_and] at this
        unfold start
        rw [← this];rfl
      · have:=hbr (i - n) (by omega)
        rwa [show n+(i - n)=i by omega] at this
      · unfold start
        have h1:=hbr (i - 1 - n) (by omega)
        rw [show n+(i - 1 - n)=i - 1 by omega] at h1
        rw [h1]
        have:(i==0)=false:=by simp;omega
        rw [this];simp
theorem WL.words {b p:Nat} {L:List (List UInt8)} (h:WL b p L):∀ w,w∈L→1≤w.length∧w.length≤5:=by
  induction h with
  | done p _=>intro w hw;cases hw
  | cons p n e L h1 h2 h3 h4 h5 ih =>
    intro w hw
    rcases List.mem_cons.1 hw with rfl | hw
    · exact Zow n e
    · exact ih w hw
theorem Zoy:∀ (L:List (List UInt8)) (k m:Nat) (sep:List UInt8),sep.length=m→(∀ w,w∈L→w.length≤k)→(Lib.joinTail sep L).length≤(k+m) * L.length:=by
  intro L
  induction L with
  | nil=>intro k m sep _ _;simp [Lib.joinTail]
  | cons w L ih =>
    intro k m sep hm h
    have h1:=h w List.mem_cons_self
    have h2:=ih k m sep hm fun w hw=>h w (List.mem_cons_of_mem _ hw)
    simp only [Lib.joinTail,List.map_cons,List.flatten_cons,List.length_append,List.length_cons] at h2 ⊢
    rw [Nat.mul_add]
    omega
theorem ZlU (L:List (List UInt8)) (k:Nat) (c:UInt8) (h:∀ w,w∈L→w.length≤k):(Lib.join L [c]).length≤(k+1) * L.length:=by
  cases L with
  | nil=>simp [Lib.join_nil]
  | cons w L =>
    rw [Lib.join_cons,List.length_append]
    have h1:=h w List.mem_cons_self
    have h2:=Zoy L k 1 [c] rfl fun w hw=>h w (List.mem_cons_of_mem _ hw)
    simp only [List.length_cons]
    rw [Nat.mul_add]
    omega
theorem Zfh (c : ZbI) (n : Nat) (a : Zcu) (i b f : Int) (star : Bool) (l : List (List UInt8)) (t : List UInt8) (h0 : 0 ≤ i) (h5 : i < 5) (hf : ZcC 4000000 i = some f)
    (hb:b=if i=0 then a.e0 else if i=1 then a.e1 else if i=2 then a.e2 else if i=3 then a.e3 else a.e4)
    (hs:star=if i=2 then c.AnyDay else if i=4 then c.AnyWeek else (b==f)) (ht:(bif star then some ([42]:List UInt8) else ZeO 4000000 b)=some t) (hl:l.length≤10) :
    ZbX 4000000 c a (n+1) i l=ZbX 4000000 c a n (i+1) (l++[t]):=by
  rw [ZbX.eq_2,hf,wrap_i64 (i+1) (by omega) (by omega)]
  have h:i=0∨i=1∨i=2∨i=3∨i=4:=by omega
  have e:(bif decide ((0:Int)≤i) then (bif decide (i<5) then (bif i==0 then some a.e0 else bif i==1 then some a.e1 else bif i==2 then some a.e2 else bif i==3 then some a.e3 else bif i==4 then some a.e4 else none) else none) else none)=some b:=by
    rcases h with rfl | rfl | rfl | rfl | rfl<;>(subst hb;rfl)
  have e2:(bif (i==2) then some c.AnyDay else (bif (i==4) then some c.AnyWeek else some (b==f)))=some star:=by
    rcases h with rfl | rfl | rfl | rfl | rfl<;>(subst hs;rfl)
  rw [e,Option.bind_some,Option.bind_some,e2,Option.bind_some,decide_eq_true h5,cond_true]
  cases star with
  | true =>
    have:t=[42]:=by simpa using ht.symm
    subst this
    rw [cond_true,decide_eq_true (show l.length+1≤LIM by unfold LIM;omega)];rfl
  | false =>
    rw [cond_false] at ht ⊢
    rw [ht,Option.bind_some,decide_eq_true (show l.length+1≤LIM by unfold LIM;omega)];rfl
theorem ZqS (a f:Nat) (ha:a<2 ^ 64) (hf:f<2 ^ 60) (h:okF a f=true):a<2 ^ 60:=by
  have:=(Zk1 a f ha (Nat.lt_trans hf (by decide))).1 h
  apply Nat.lt_pow_two_of_testBit
  intro i hi
  cases hq:a.testBit i
  · rfl
  · have:=this.2 i hq
    rw [Nat.testBit_lt_two_pow (Nat.lt_of_lt_of_le hf (Nat.pow_le_pow_right (by decide) hi))] at this;cases this
end Go.T.Cr
set_option linter.unusedVariables false
set_option linter.unusedSimpArgs false
namespace Go.T.Cr
open Go Go.Ab Go.Proofs Go.T
def digB (c:UInt8):Bool:=([48,49,50,51,52,53,54,55,56,57]:List UInt8).contains c
theorem Zl4 (c:UInt8) (h:digB c=true):48≤c.toNat∧c.toNat≤57:=by
  have:∀ n:Nat,n<256→digB (UInt8.ofNat n)=true→48≤n∧n≤57:=by decide +kernel
  have q:=this c.toNat (UInt8.toNat_lt c)
  rw [UInt8.ofNat_toNat] at q
  exact q h
def numV (l:List UInt8):Nat:=l.foldl (fun a c=>a * 10+(c.toNat - 48)) 0
theorem ZjV:∀ (l:List UInt8) (acc k:Nat),(∀ c,c∈l→digB c=true)→acc<10 ^ k→k+l.length≤18→Lib.parseUint10 acc l = .ok (l.foldl (fun a c=>a * 10+(c.toNat - 48)) acc)∧l.foldl (fun a c=>a * 10+(c.toNat - 48)) acc<10 ^ (k+l.length):=by
  intro l
  induction l with
  | nil=>intro acc k _ h _;exact ⟨rfl,by simpa using h⟩
  | cons c r ih =>
    intro acc k hd ha hk
    have hc:=Zl4 c (hd c List.mem_cons_self)
    simp only [List.length_cons] at hk
    have h17:(10:Nat) ^ k≤10 ^ 17:=Nat.pow_le_pow_right (by decide) (by omega)
    have hb:acc * 10+(c.toNat - 48)<10 ^ (k+1):=by rw [Nat.pow_succ];omega
    obtain ⟨h1,h2⟩:=ih _ (k+1) (fun d hd'=>hd d (List.mem_cons_of_mem _ hd')) hb (by omega)
    simp only [Lib.parseUint10,List.foldl_cons,List.length_cons]
    rw [if_pos hc,if_neg (by omega),if_neg (by omega)]
    exact ⟨h1,by rw [show k+(r.length+1)=k+1+r.length by omega];exact h2⟩
theorem Zns (l:List UInt8) (h:∀ c,c∈l→digB c=true) (hl:l.length≤4):numV l≤9999:=by
  have:=(ZjV l 0 0 h (by decide) (by omega)).2
  have h2:(10:Nat) ^ (0+l.length)≤10 ^ 4:=Nat.pow_le_pow_right (by decide) (by omega)
  unfold numV
  omega
theorem Zpo (l:List UInt8) (h:∀ c,c∈l→digB c=true) (h1:1≤l.length) (hl:l.length≤4):Lib.atoiAll l = .ok (numV l:Int):=by
  cases l with
  | nil=>simp at h1
  | cons c r =>
    have hc:=Zl4 c (h c List.mem_cons_self)
    have hp:=(ZjV (c::r) 0 0 h (by decide) (by omega)).1
    have hm:Lib.parseMag (c::r) = .ok (numV (c::r)):=by
      unfold Lib.parseMag
      rw [if_neg (by simp),hp];rfl
    have hlt:=Zns (c::r) h hl
    have n43:¬ (c.toNat=43∨c.toNat=45):=by omega
    have n45:¬ c.toNat=45:=by omega
    unfold Lib.atoiAll
    simp only [n45,show ¬ c.toNat=43 by omega,or_self,false_and,not_false_eq_true,true_and,if_false]
    rw [hm]
    simp only []
    rw [if_neg (by omega)]
theorem ZnZ {α:Type} (p:α→Bool) (l:List α):l.dropWhile p=[]↔∀ x,x∈l→p x=true:=by
  induction l with
  | nil=>simp
  | cons x l ih =>
    rw [List.dropWhile_cons]
    by_cases h:p x=true
    · rw [if_pos h,ih]
      constructor
      · intro q y hy
        rcases List.mem_cons.1 hy with rfl | hy
        · exact h
        · exact q y hy
      · intro q y hy
        exact q y (List.mem_cons_of_mem _ hy)
    · rw [if_neg h]
      constructor
      · intro q;cases q
      · intro q;exact absurd (q x List.mem_cons_self) h
theorem Zlw (l cs:List UInt8):Lib.trimS l cs=[]↔∀ c,c∈l→cs.contains c=true:=by
  unfold Lib.trimS Lib.trimLeftS Lib.trimRightS
  constructor
  · intro h
    have h1:=(ZnZ _ _).1 h
    by_cases hd:l.reverse.dropWhile (cs.contains ·)=[]
    · intro c hc
      exact (ZnZ _ _).1 hd c (List.mem_reverse.2 hc)
    · exfalso
      obtain ⟨x,r,hx⟩:=List.exists_cons_of_ne_nil hd
      have hn:¬ cs.contains x=true:=by
        have:=List.head_dropWhile_not (p:=(cs.contains ·)) (l:=l.reverse) (by simpa using hd)
        simp only [hx,List.head_cons] at this
        rw [this];decide
      exact hn (h1 x (by rw [hx];simp))
  · intro h
    have:l.reverse.dropWhile (cs.contains ·)=[]:=(ZnZ _ _).2 fun c hc=>h c (List.mem_reverse.1 hc)
    rw [this];rfl
def isNum (s:List UInt8):Bool:=decide (1≤s.length) && decide (s.length≤4) && s.all digB
theorem Znr (F:Nat) (s:List UInt8):Zc3 F s=some (if isNum s then ((numV s:Int),true) else (0,false)):=by
  unfold Zc3 isNum
  by_cases h1:1≤s.length
  · rw [decide_eq_false (show ¬ ((s.length:Nat):Int)<1 by omega),decide_eq_true h1]
    by_cases h2:s.length≤4
    · rw [decide_eq_false (show ¬ (4:Int)<((s.length:Nat):Int) by omega),decide_eq_true h2]
      simp only [cond_false,Bool.true_and]
      unfold ZeZ
      rw [decide_eq_true (show s.length≤LIM∧_∧_ from ⟨by unfold LIM;omega,by decide,by decide⟩)]
      simp only [cond_true,Option.bind_some]
      by_cases h3:s.all digB=true
      · have hd:∀ c,c∈s→digB c=true:=List.all_eq_true.1 h3
        have ht:Lib.trimS s [48,49,50,51,52,53,54,55,56,57]=[]:=(Zlw _ _).2 hd
        rw [ht,h3,if_pos rfl]
        unfold Ze0
        rw [Zpo s hd h1 h2,decide_eq_true (show s.length≤LIM by unfold LIM;omega)]
        rfl
      · have ht:Lib.trimS s [48,49,50,51,52,53,54,55,56,57]≠[]:=fun e=>h3 (List.all_eq_true.2 ((Zlw _ _).1 e))
        have hb:(Lib.trimS s [48,49,50,51,52,53,54,55,56,57]==([]:List UInt8))=false:=by simpa using ht
        rw [hb,if_neg h3];rfl
    · rw [decide_eq_true (show (4:Int)<((s.length:Nat):Int) by omega),decide_eq_false h2];rfl
  · rw [decide_eq_true (show ((s.length:Nat):Int)<1 by omega),decide_eq_false h1];rfl
theorem Zkc {s:List UInt8} (h:isNum s=true):(∀ c,c∈s→digB c=true)∧1≤s.length∧s.length≤4:=by
  unfold isNum at h
  simp only [Bool.and_eq_true,decide_eq_true_eq] at h
  exact ⟨List.all_eq_true.1 h.2,h.1.1,h.1.2⟩
theorem Zh4 (F:Nat) (s:List UInt8):∃ (n:Nat) (ok:Bool),Zc3 F s=some ((n:Int),ok)∧n≤9999:=by
  rw [Znr]
  by_cases h:isNum s=true
  · rw [if_pos h]
    exact ⟨_,_,rfl,Zns s (Zkc h).1 (Zkc h).2.2⟩
  · rw [if_neg h];exact ⟨0,false,rfl,by decide⟩
theorem Zqn (c:UInt8) (l:List UInt8):(Lib.cut l [c]).1.length≤l.length∧(Lib.cut l [c]).2.1.length≤l.length:=by
  rcases Zqm c l with ⟨_,e⟩ | ⟨p,r,h,_,e⟩
  · rw [e];simp
  · rw [e,h];simp;omega
theorem Zks (F:Nat) (s sep:List UInt8) (h:s.length≤1000):strings_Cut F s sep=some (Lib.cut s sep):=by
  unfold strings_Cut
  rw [decide_eq_true (by omega)];rfl
theorem ZpU (F:Nat) (s:List UInt8) (f:Zd7) (hs:s.length≤1000) (h0:0≤f.least):∃ it ok,ZeP F s f=some (it,ok)∧0≤it.step∧it.step≤9999∧0≤it.from_:=by
  unfold ZeP
  rw [Zks F s _ hs,Option.bind_some]
  have hl:=(Zqn 47 s).1
  have key:∃ (n:Nat) (ok:Bool),(bif (Lib.cut s [47]).2.2 then (Option.bind (Zc3 F (Lib.cut s [47]).2.1) fun y_4=>some (y_4.1,y_4.2)) else some ((1:Int),true))=some ((n:Int),ok)∧n≤9999:=by
    cases (Lib.cut s [47]).2.2
    · exact ⟨1,true,rfl,by decide⟩
    · obtain ⟨n,ok,h,hn⟩:=Zh4 F (Lib.cut s [47]).2.1
      rw [h];exact ⟨n,ok,rfl,hn⟩
  obtain ⟨n,ok,hk,hn⟩:=key
  rw [hk,Option.bind_some]
  simp only []
  cases (Lib.cut s [47]).1==([42]:List UInt8)
  · simp only [cond_false]
    rw [Zks F (Lib.cut s [47]).1 _ (by omega),Option.bind_some]
    obtain ⟨a,oka,ha,_⟩:=Zh4 F (Lib.cut (Lib.cut s [47]).1 [45]).1
    obtain ⟨b,okb,hb,_⟩:=Zh4 F (Lib.cut (Lib.cut s [47]).1 [45]).2.1
    rw [ha,Option.bind_some]
    cases (Lib.cut (Lib.cut s [47]).1 [45]).2.2<;>cases ok<;>cases oka<;>cases okb<;>(try rw [hb])<;>exact ⟨_,_,rfl,by simp,by simp;omega,by simp⟩
  · exact ⟨_,_,rfl,by simp,by simp;omega,h0⟩
theorem Zmt (F : Nat) (y : Zb8 × Bool) (c : Int) (hc : c ≤ 63) (h1 : 1 ≤ y.1.step) (h2 : y.1.step ≤ 9999) : ∀ (n : Nat) (k : Int), 0 ≤ k → k ≤ 10100 → (c + 1 - k).toNat < n →
    ∃ R:Nat,R<2 ^ 64∧(∀ B:Nat,B<2 ^ 64→ZbP F y c n (B:Int) k=some ((B ||| R:Nat):Int))∧(∀ i,R.testBit i=true→k≤(i:Int)∧(i:Int)≤c)∧(k≤c→R.testBit k.toNat=true):=by
  intro n
  induction n with
  | zero=>intro k _ _ h;omega
  | succ n ih =>
    intro k hk hk2 h
    by_cases hkc:k≤c
    · obtain ⟨j,rfl⟩:=Int.eq_ofNat_of_zero_le hk
      have hj:j<64:=by omega
      have p1:(2:Nat) ^ j<2 ^ 64:=Nat.pow_lt_pow_right (by decide) hj
      have w:IntKind.wrap .i64 ((j:Int)+y.1.step)=(j:Int)+y.1.step:=by
        simp only [IntKind.wrap,IntKind.signed,IntKind.bits]
        simp
        omega
      obtain ⟨R,r1,r2,r3,r4⟩:=ih ((j:Int)+y.1.step) (by omega) (by omega) (by omega)
      refine ⟨2 ^ j ||| R,Nat.or_lt_two_pow p1 r1,fun B hB=>?_,fun i hi=>?_,fun _=>?_⟩
      · rw [ZbP.eq_2,decide_eq_true hkc,decide_eq_true hk]
        simp only [cond_true]
        have e:IntKind.wrap .u64 ((1:Int) * (2:Int) ^ (min (Int.toNat (j:Int)) 64))=((2 ^ j:Nat):Int):=by
          rw [Int.toNat_natCast,Nat.min_eq_left (by omega),Int.one_mul,show ((2:Int) ^ j)=((2 ^ j:Nat):Int) by simp]
          exact wrap_u64 _ p1
        rw [e,ib_or B (2 ^ j) hB p1,w,r2 _ (Nat.or_lt_two_pow hB p1),Nat.or_assoc]
      · rw [Nat.testBit_or,Bool.or_eq_true] at hi
        rcases hi with hi | hi
        · rw [Nat.testBit_two_pow] at hi
          have:j=i:=by simpa using hi
          omega
        · have:=r3 i hi;omega
      · rw [Nat.testBit_or,Int.toNat_natCast,Nat.testBit_two_pow_self,Bool.true_or]
    · refine ⟨0,by decide,fun B hB=>?_,fun i hi=>by simp at hi,fun q=>absurd q hkc⟩
      rw [ZbP.eq_2,decide_eq_false hkc]
      simp
inductive IO3 where
  | syn | bad | good (R:Nat)
def itemO (n lo hi:Int) (x:List UInt8):IO3 :=
  match ZeP 4000000 x ⟨lo,hi⟩ with
  | none=>.syn
  | some (it,ok) =>
    if ok=false then .syn
    else if it.from_<lo∨hi<it.to_∨it.to_<it.from_∨it.step=0 then .bad
    else .good ((ZbP 4000000 (it,ok) (if x=[42]∧n=4 then 6 else it.to_) 4000000 0 it.from_).getD 0).toNat
theorem Zid (n lo hi : Int) (h0 : 0 ≤ lo) (h59 : hi ≤ 59) (h6 : n = 4 → lo = 0) (x : List UInt8) (hx : x.length ≤ 1000) :
    (∀ R,itemO n lo hi x = .good R→R<2 ^ 64∧R≠0∧∀ i,R.testBit i=true→lo≤(i:Int)∧(i:Int)≤max hi 6) ∧
    ∀ (L:List (List UInt8)) (fuel idx:Nat) (b:Nat) (e:Int),L[idx]? = some x→b<2 ^ 64→L.length≤1000 →
      Zby 4000000 n lo hi L (fuel+1) (b:Int) e (idx:Int)=match itemO n lo hi x with
        | .syn=>some (.inl (0,50))
        | .bad=>Zby 4000000 n lo hi L fuel (b:Int) 51 ((idx+1:Nat):Int)
        | .good R=>Zby 4000000 n lo hi L fuel ((b ||| R:Nat):Int) e ((idx+1:Nat):Int):=by
  obtain ⟨it,ok,hr,hs0,hs1,hf0⟩:=ZpU 4000000 x ⟨lo,hi⟩ hx h0
  have hit:itemO n lo hi x=if ok=false then .syn
    else if it.from_<lo∨hi<it.to_∨it.to_<it.from_∨it.step=0 then .bad
    else .good ((ZbP 4000000 (it,ok) (if x=[42]∧n=4 then 6 else it.to_) 4000000 0 it.from_).getD 0).toNat:=by unfold itemO;rw [hr]
  have pre : ∀ (L : List (List UInt8)) (fuel idx : Nat) (b : Nat) (e : Int), L[idx]? = some x → L.length ≤ 1000 →
      Zby 4000000 n lo hi L (fuel+1) (b:Int) e (idx:Int)=Option.bind ((bif (!ok) then some (Sum.inl ((0:Int),(50:Int))) else (Option.bind (bif (decide (it.from_<lo)) then some true else (bif (decide (hi<it.to_)) then some true else (bif (decide (it.to_<it.from_)) then some true else some (it.step==(0:Int))))) fun t55_43=>(bif t55_43 then some (Sum.inr ((b:Int),(51:Int))) else (Option.bind (bif (x==([42]:List UInt8)) then some (n==(4:Int)) else some false) fun t61_44=>(Option.bind (bif t61_44 then some (6:Int) else some it.to_) fun c_45=>(Option.bind (ZbP 4000000 (it,ok) c_45 4000000 (b:Int) it.from_) fun bits_46=>some (Sum.inr (bits_46,e)))))))):Option ((Int×Int) ⊕ (Int×Int))) (fun o21=>Sum.elim (fun r=>some (Sum.inl r)) (fun x=>Zby 4000000 n lo hi L fuel x.1 x.2 ((idx+1:Nat):Int)) o21):=by
    intro L fuel idx b e hL hl
    have hidx:idx<L.length:=(List.getElem?_eq_some_iff.1 hL).1
    rw [Zby.eq_2,decide_eq_true (show (idx:Int)<((L.length:Nat):Int) by omega),decide_eq_true (show (0:Int)≤(idx:Int) by omega),Int.toNat_natCast,hL]
    simp only [cond_true,Option.bind_some,hr]
    have w:IntKind.wrap .i64 ((idx:Int)+1)=((idx+1:Nat):Int):=by
      simp only [IntKind.wrap,IntKind.signed,IntKind.bits]
      simp
      omega
    rw [w]
  cases ok with
  | false =>
    rw [hit,if_pos rfl]
    refine ⟨fun R h=>(by cases h),fun L fuel idx b e hL _ hl=>?_⟩
    rw [pre L fuel idx b e hL hl];rfl
  | true =>
    rw [if_neg (by decide)] at hit
    by_cases hb:it.from_<lo∨hi<it.to_∨it.to_<it.from_∨it.step=0
    · rw [hit,if_pos hb]
      refine ⟨fun R h=>(by cases h),fun L fuel idx b e hL _ hl=>?_⟩
      rw [pre L fuel idx b e hL hl]
      have:(bif (decide (it.from_<lo)) then some true else (bif (decide (hi<it.to_)) then some true else (bif (decide (it.to_<it.from_)) then some true else some (it.step==(0:Int)))))=some true:=by
        by_cases q1:it.from_<lo
        · rw [decide_eq_true q1];rfl
        rw [decide_eq_false q1]
        by_cases q2:hi<it.to_
        · rw [decide_eq_true q2];rfl
        rw [decide_eq_false q2]
        by_cases q3:it.to_<it.from_
        · rw [decide_eq_true q3];rfl
        rw [decide_eq_false q3]
        have:it.step=0:=by omega
        rw [this];rfl
      rw [this];rfl
    · rw [if_neg hb] at hit
      have g1:¬ it.from_<lo:=fun q=>hb (.inl q)
      have g2:¬ hi<it.to_:=fun q=>hb (.inr (.inl q))
      have g3:¬ it.to_<it.from_:=fun q=>hb (.inr (.inr (.inl q)))
      have g4:it.step≠0:=fun q=>hb (.inr (.inr (.inr q)))
      have hto:(bif (x==([42]:List UInt8)) then some (n==(4:Int)) else some false)=some (decide (x=[42]∧n=4)):=by
        by_cases q:x=[42]
        · have:(x==([42]:List UInt8))=true:=by simpa using q
          rw [this,cond_true]
          by_cases q2:n=4
          · rw [decide_eq_true ⟨q,q2⟩,show (n==4)=true by simpa using q2]
          · rw [decide_eq_false (fun h=>q2 h.2),show (n==4)=false by simpa using q2]
        · have:(x==([42]:List UInt8))=false:=by simpa using q
          rw [this,cond_false,decide_eq_false (fun h=>q h.1)]
      have hc:(bif decide (x=[42]∧n=4) then some (6:Int) else some it.to_)=some (if x=[42]∧n=4 then 6 else it.to_):=by
        by_cases q:x=[42]∧n=4
        · rw [decide_eq_true q,if_pos q];rfl
        · rw [decide_eq_false q,if_neg q];rfl
      generalize hcc:(if x=[42]∧n=4 then 6 else it.to_)=c at hit hc
      have hc63:c≤max hi 6:=by
        by_cases q:x=[42]∧n=4
        · rw [if_pos q] at hcc;omega
        · rw [if_neg q] at hcc;omega
      have hfc:it.from_≤c:=by
        by_cases q:x=[42]∧n=4
        · rw [if_pos q] at hcc
          have hl0:=h6 q.2
          -- the star: from the least number on
          have:ZeP 4000000 [42] ⟨lo,hi⟩=some (⟨lo,hi,1⟩,true):=rfl
          rw [q.1,this] at hr
          have:=(Prod.mk.inj (Option.some.inj hr)).1
          rw [← this]
          show lo≤c
          omega
        · rw [if_neg q] at hcc;omega
      obtain ⟨R,r1,r2,r3,r4⟩:=Zmt 4000000 (it,true) c (by omega) (by simp;omega) hs1 4000000 it.from_ hf0 (by omega) (by omega)
      have hR:((ZbP 4000000 (it,true) c 4000000 0 it.from_).getD 0).toNat=R:=by
        have:=r2 0 (by decide)
        rw [show ((0:Nat):Int)=0 from rfl] at this
        rw [this];simp
      rw [hR] at hit
      rw [hit]
      refine ⟨fun R' h=>?_,fun L fuel idx b e hL hbl hl=>?_⟩
      · injection h with h
        subst h
        refine ⟨r1,fun e=>?_,fun i hi'=>?_⟩
        · have:=r4 hfc
          rw [e,Nat.zero_testBit] at this;cases this
        · have:=r3 i hi';omega
      · rw [pre L fuel idx b e hL hl,decide_eq_false g1,decide_eq_false g2,decide_eq_false g3]
        have:(it.step==0)=false:=by simpa using g4
        simp only [this,cond_false,Bool.not_true,Option.bind_some,hto,hc,r2 b hbl]
        rfl
def foldO:List IO3→Nat×Int→Option (Nat×Int)
  | [],s=>some s
  | .syn::_,_=>none
  | .bad::r,(b,_)=>foldO r (b,51)
  | .good R::r,(b,e)=>foldO r (b ||| R,e)
theorem Zp7 (n lo hi : Int) (h0 : 0 ≤ lo) (h59 : hi ≤ 59) (h6 : n = 4 → lo = 0) (L : List (List UInt8)) (hL : ∀ x, x ∈ L → x.length ≤ 1000) (hl : L.length ≤ 1000) :
    ∀ (fuel idx:Nat) (b:Nat) (e:Int),b<2 ^ 64→idx≤L.length→L.length - idx<fuel →
      Zby 4000000 n lo hi L fuel (b:Int) e (idx:Int)=match foldO ((L.drop idx).map (itemO n lo hi)) (b,e) with | none=>some (.inl (0,50)) | some s=>some (.inr ((s.1:Int),s.2)):=by
  intro fuel
  induction fuel with
  | zero=>intro idx b e _ _ h;omega
  | succ fuel ih =>
    intro idx b e hb hi' h
    by_cases hlt:idx<L.length
    · have hx:L[idx]? = some L[idx]:=List.getElem?_eq_getElem hlt
      obtain ⟨hg,hst⟩:=Zid n lo hi h0 h59 h6 L[idx] (hL _ (List.getElem_mem hlt))
      rw [hst L fuel idx b e hx hb hl,List.drop_eq_getElem_cons hlt,List.map_cons]
      cases hq:itemO n lo hi L[idx] with
      | syn=>rfl
      | bad=>simp only [foldO];exact ih (idx+1) b 51 hb (by omega) (by omega)
      | good R=>simp only [foldO];exact ih (idx+1) (b ||| R) e (Nat.or_lt_two_pow hb (hg R hq).1) (by omega) (by omega)
    · have:idx=L.length:=by omega
      subst this
      rw [List.drop_length,List.map_nil,Zby.eq_2,decide_eq_false (by omega)];rfl
theorem Zfe (c:UInt8):∀ (l cur:List UInt8),(∀ p,p∈ZcL c l cur→p.length≤cur.length+l.length)∧(ZcL c l cur).length≤l.length+1:=by
  intro l
  induction l with
  | nil=>intro cur;exact ⟨fun p hp=>by simp [ZcL] at hp;subst hp;simp,by simp [ZcL]⟩
  | cons x l ih =>
    intro cur
    unfold ZcL
    by_cases h:x=c
    · rw [if_pos h]
      obtain ⟨i1,i2⟩:=ih []
      refine ⟨fun p hp=>?_,by simp;omega⟩
      rcases List.mem_cons.1 hp with rfl | hp
      · omega
      · have:=i1 p hp;simp at this ⊢;omega
    · rw [if_neg h]
      obtain ⟨i1,i2⟩:=ih (cur++[x])
      refine ⟨fun p hp=>?_,by simp;omega⟩
      have:=i1 p hp;simp at this ⊢;omega
theorem Zm4 (c:UInt8):∀ (l cur:List UInt8),ZcL c l cur≠[]:=by
  intro l
  induction l with
  | nil=>intro cur;simp [ZcL]
  | cons x l ih =>
    intro cur
    unfold ZcL
    split
    · simp
    · exact ih _
theorem Zg5:∀ (l cur:List UInt8),(∀ p,p∈ZcW l cur→p.length≤cur.length+l.length)∧(ZcW l cur).length≤l.length+1:=by
  intro l
  induction l with
  | nil =>
    intro cur
    unfold ZcW
    split
    · exact ⟨fun p hp=>(by cases hp),by simp⟩
    · exact ⟨fun p hp=>(by simp at hp;subst hp;simp),by simp⟩
  | cons x l ih =>
    intro cur
    unfold ZcW
    by_cases h:Zgw x=true
    · rw [if_pos h]
      obtain ⟨i1,i2⟩:=ih []
      by_cases hc:cur=[]
      · rw [if_pos hc]
        exact ⟨fun p hp=>(by have:=i1 p hp;simp at this ⊢;omega),by simp;omega⟩
      · rw [if_neg hc]
        refine ⟨fun p hp=>?_,by simp;omega⟩
        rcases List.mem_cons.1 hp with rfl | hp
        · omega
        · have:=i1 p hp;simp at this ⊢;omega
    · rw [if_neg h]
      obtain ⟨i1,i2⟩:=ih (cur++[x])
      exact ⟨fun p hp=>(by have:=i1 p hp;simp at this ⊢;omega),by simp;omega⟩
def loF (n:Nat):Int:=if n=2∨n=3 then 1 else 0
def hiF (n:Nat):Int:=if n=0 then 59 else if n=1 then 23 else if n=2 then 31 else if n=3 then 12 else 7
def postF (n b:Nat):Nat:=if n=4∧b / 128≠0 then (b &&& 127) ||| 1 else b
def Zil (n:Nat) (w:List UInt8):Option (Nat×Int):=foldO ((ZcL 44 w []).map (itemO n (loF n) (hiF n))) (0,0)
theorem ZiO (A : List IO3) (lo hi : Int) (hA : ∀ R, IO3.good R ∈ A → R < 2 ^ 64 ∧ R ≠ 0 ∧ ∀ i, R.testBit i = true → lo ≤ (i : Int) ∧ (i : Int) ≤ hi) :
    ∀ (b:Nat) (e:Int) (s:Nat×Int),b<2 ^ 64→(∀ i,b.testBit i=true→lo≤(i:Int)∧(i:Int)≤hi)→foldO A (b,e)=some s →
      s.1<2 ^ 64∧(∀ i,s.1.testBit i=true→lo≤(i:Int)∧(i:Int)≤hi)∧(s.2=e∨s.2=51)∧(b≠0→s.1≠0)∧(A≠[]→s.2≠51→s.1≠0):=by
  induction A with
  | nil=>intro b e s hb hi' h;cases h;exact ⟨hb,hi',.inl rfl,id,fun q=>absurd rfl q⟩
  | cons a A ih =>
    intro b e s hb hi' h
    have hA':=fun R hR=>hA R (List.mem_cons_of_mem _ hR)
    cases a with
    | syn=>cases h
    | bad =>
      obtain ⟨i1,i2,i3,i4,i5⟩:=ih hA' b 51 s hb hi' h
      have:s.2=51:=by rcases i3 with q | q<;>exact q
      exact ⟨i1,i2,.inr this,i4,fun _ q=>absurd this q⟩
    | good R =>
      obtain ⟨r1,r2,r3⟩:=hA R List.mem_cons_self
      have hne:b ||| R≠0:=by
        intro q
        have:R=0:=by
          apply Nat.eq_of_testBit_eq
          intro i
          have:=congrArg (fun n=>n.testBit i) q
          simp only [Nat.testBit_or,Nat.zero_testBit,Bool.or_eq_false_iff] at this
          rw [this.2,Nat.zero_testBit]
        exact r2 this
      obtain ⟨i1,i2,i3,i4,i5⟩:=ih hA' (b ||| R) e s (Nat.or_lt_two_pow hb r1) (fun i hbi=>by
        rw [Nat.testBit_or,Bool.or_eq_true] at hbi
        rcases hbi with q | q
        · exact hi' i q
        · exact r3 i q) h
      exact ⟨i1,i2,i3,fun _=>i4 hne,fun _ _=>i4 hne⟩
theorem Zl2 (n : Nat) (hn : n < 5) (w : List UInt8) (hw : w.length ≤ 900) :
    ZdT 4000000 w (n:Int)=match Zil n w with | none=>some (0,50) | some s=>some ((postF n s.1:Int),s.2):=by
  have hb:∀ s,Zil n w=some s→s.1<2 ^ 64∧(n=4→s.1<256):=by
    intro s hs
    obtain ⟨i1,i2,_⟩:=ZiO _ (loF n) (max (hiF n) 6) (fun R hR=>by
      obtain ⟨x,hx,hR⟩:=List.mem_map.1 hR
      have hl:=(Zfe 44 w []).1 x hx
      exact (Zid n (loF n) (hiF n) (by unfold loF;split<;>decide) (by unfold hiF;(repeat' split)<;>decide) (fun h=>by unfold loF;rw [if_neg (by omega)]) x (by simp at hl;omega)).1 R hR) 0 0 s (by decide) (fun i h=>by simp at h) hs
    refine ⟨i1,fun h4=>?_⟩
    have:s.1<2 ^ 8:=Nat.lt_pow_two_of_testBit _ fun i hi=>by
      cases hq:s.1.testBit i
      · rfl
      · have:=(i2 i hq).2
        subst h4
        unfold hiF at this
        simp at this
        omega
    exact this
  have key:Zby 4000000 (n:Int) (loF n) (hiF n) (ZcL 44 w []) 4000000 0 0 0=match Zil n w with | none=>some (.inl (0,50)) | some s=>some (.inr ((s.1:Int),s.2)):=by
    have:=Zp7 n (loF n) (hiF n) (by unfold loF;split<;>decide) (by unfold hiF;(repeat' split)<;>decide) (fun h=>by unfold loF;rw [if_neg (by omega)]) (ZcL 44 w []) (fun x hx=>by
      have:=(Zfe 44 w []).1 x hx;simp at this;omega) (by have:=(Zfe 44 w []).2;omega) 4000000 0 0 0 (by decide) (Nat.zero_le _) (by have:=(Zfe 44 w []).2;omega)
    rw [List.drop_zero] at this
    exact this
  have hS:strings_Split 4000000 w [44]=some (ZcL 44 w []):=by
    unfold strings_Split
    rw [decide_eq_true (show w.length≤1048576000∧1≤([44]:List UInt8).length from ⟨by omega,by decide⟩),cond_true,Zm2 44 w.length w (Nat.le_refl _)]
  have h5:n=0∨n=1∨n=2∨n=3∨n=4:=by omega
  unfold ZdT
  have e1:(bif decide ((0:Int)≤(n:Int)) then (bif decide ((n:Int)<(5:Int)) then (bif ((n:Int)==(0:Int)) then some ((0:Int),(59:Int)) else (bif ((n:Int)==(1:Int)) then some ((0:Int),(23:Int)) else (bif ((n:Int)==(2:Int)) then some ((1:Int),(31:Int)) else (bif ((n:Int)==(3:Int)) then some ((1:Int),(12:Int)) else (bif ((n:Int)==(4:Int)) then some ((0:Int),(7:Int)) else none))))) else none) else none)=some (loF n,hiF n):=by
    rcases h5 with rfl | rfl | rfl | rfl | rfl<;>rfl
  rw [e1,Option.bind_some]
  simp only []
  rw [hS,Option.bind_some,key]
  cases hq:Zil n w with
  | none=>rfl
  | some s =>
    obtain ⟨q1,q2⟩:=hb s hq
    obtain ⟨b,e⟩:=s
    simp only [Option.bind_some,Sum.elim_inr]
    by_cases h4:n=4
    · have e4:((n:Int)==4)=true:=by subst h4;rfl
      have e7:Int.fdiv (b:Int) ((2:Int) ^ (min (Int.toNat (7:Int)) 64))=((b / 128:Nat):Int):=by
        rw [show (min (Int.toNat (7:Int)) 64)=7 from rfl,show ((2:Int) ^ 7)=((128:Nat):Int) from rfl,Int.fdiv_eq_ediv_of_nonneg _ (Int.natCast_nonneg _)]
        rfl
      simp only [e4,cond_true,Option.bind_some,e7]
      by_cases hd:b / 128=0
      · have:(((b / 128:Nat):Int) != 0)=false:=by rw [hd];rfl
        rw [this]
        simp only [cond_false,Option.bind_some,postF]
        rw [if_neg (fun q=>q.2 hd)]
      · have:(((b / 128:Nat):Int) != 0)=true:=by simp;omega
        have ha:ZdP 4000000 0 6=some ((127:Nat):Int):=rfl
        rw [this,ha]
        simp only [cond_true,Option.bind_some,postF,ZqZ b 127 q1 (by decide)]
        have:=ib_or (b &&& 127) 1 (Nat.and_lt_two_pow _ (by decide)) (by decide)
        rw [show ((1:Nat):Int)=1 from rfl] at this
        rw [this,if_pos ⟨h4,hd⟩]
    · have e4:((n:Int)==4)=false:=by simp;omega
      simp only [e4,cond_false,Option.bind_some,postF]
      rw [if_neg (fun q=>h4 q.1)]
def FR (n:Nat) (w:List UInt8) (b:Nat):Prop:=ZdT 4000000 w (n:Int)=some ((b:Int),0)
theorem Zda (W : List (List UInt8)) (hW : W.length = 5) (k i : Nat) (hi : i < 5) (c0 c1 c2 c3 c4 : Int) (w : List UInt8) (hw : W[i]? = some w) (b e : Int) (hf : ZdT 4000000 w (i : Int) = some (b, e)) :
    ZbQ 4000000 W (k+1) (i:Int) c0 c1 c2 c3 c4=if e≠0 then some (.inl (⟨0,0,0,0,0,false,false⟩,(i:Int),e)) else
      ZbQ 4000000 W k ((i+1:Nat):Int) (if i=0 then b else c0) (if i=1 then b else c1) (if i=2 then b else c2) (if i=3 then b else c3) (if i=4 then b else c4):=by
  have w':IntKind.wrap .i64 ((i:Int)+1)=((i+1:Nat):Int):=by
    simp only [IntKind.wrap,IntKind.signed,IntKind.bits]
    simp
    omega
  rw [ZbQ.eq_2,hW,decide_eq_true (show (i:Int)<((5:Nat):Int) by omega),decide_eq_true (show (0:Int)≤(i:Int) by omega),Int.toNat_natCast,hw,w']
  simp only [cond_true,Option.bind_some,hf]
  by_cases he:e=0
  · subst he
    rw [if_neg (by simp)]
    simp only [bne_self_eq_false,cond_false]
    have h5:i=0∨i=1∨i=2∨i=3∨i=4:=by omega
    rcases h5 with rfl | rfl | rfl | rfl | rfl<;>rfl
  · rw [if_pos he,show (e != 0)=true by simpa using he];rfl
theorem ZgZ (n:Nat) (hn:n<5) (w:List UInt8) (hw:w.length≤900):∃ (b:Nat) (e:Int),ZdT 4000000 w (n:Int)=some ((b:Int),e):=by
  rw [Zl2 n hn w hw]
  cases Zil n w with
  | none=>exact ⟨0,50,rfl⟩
  | some s=>exact ⟨_,_,rfl⟩
theorem ZiX (t:List UInt8) (h:t.length≤256):Zcx 4000000 t=some (ZcW t []):=by
  unfold Zcx
  have:=(Zg5 t []).2
  rw [Zkn,decide_eq_true (show t.length≤LIM∧(ZcW t []).length≤LIM from ⟨by unfold LIM;omega,by unfold LIM;omega⟩)];rfl
theorem ZlJ (t : List UInt8) (h : t.length ≤ 256) (w0 w1 w2 w3 w4 : List UInt8) (hw : ZcW t [] = [w0, w1, w2, w3, w4]) (b0 b1 b2 b3 b4 : Nat) (f0 : FR 0 w0 b0) (f1 : FR 1 w1 b1) (f2 : FR 2 w2 b2) (f3 : FR 3 w3 b3) (f4 : FR 4 w4 b4) :
    ZcS 4000000 t=some (⟨b0,b1,b2,b3,b4,w2==[42],w4==[42]⟩,0,0):=by
  unfold ZcS
  rw [ZiX t h,hw,decide_eq_false (show ¬ (256:Int)<((t.length:Nat):Int) by omega)]
  have s0:=Zda [w0,w1,w2,w3,w4] rfl 3999999 0 (by decide) 0 0 0 0 0 w0 rfl b0 0 f0
  have s1:=Zda [w0,w1,w2,w3,w4] rfl 3999998 1 (by decide) b0 0 0 0 0 w1 rfl b1 0 f1
  have s2:=Zda [w0,w1,w2,w3,w4] rfl 3999997 2 (by decide) b0 b1 0 0 0 w2 rfl b2 0 f2
  have s3:=Zda [w0,w1,w2,w3,w4] rfl 3999996 3 (by decide) b0 b1 b2 0 0 w3 rfl b3 0 f3
  have s4:=Zda [w0,w1,w2,w3,w4] rfl 3999995 4 (by decide) b0 b1 b2 b3 0 w4 rfl b4 0 f4
  have s5:ZbQ 4000000 [w0,w1,w2,w3,w4] (3999994+1) 5 b0 b1 b2 b3 b4=some (.inr (b0,b1,b2,b3,b4)):=by
    rw [ZbQ.eq_2];rfl
  have hS:ZbQ 4000000 [w0,w1,w2,w3,w4] 4000000 0 0 0 0 0 0=some (.inr (b0,b1,b2,b3,b4)):=by
    refine (s0.trans (if_neg (by simp))).trans ?_
    refine (s1.trans (if_neg (by simp))).trans ?_
    refine (s2.trans (if_neg (by simp))).trans ?_
    refine (s3.trans (if_neg (by simp))).trans ?_
    exact (s4.trans (if_neg (by simp))).trans s5
  simp only [cond_false,Option.bind_some,hS]
  rfl
theorem ZoM (t : List UInt8) : ∃ r, ZcS 4000000 t = some r ∧ (r.2.2 ≠ 0 → r.1 = ⟨0, 0, 0, 0, 0, false, false⟩) ∧ (256 < t.length → r.2.2 = 2) ∧
    (r.2.2=0→t.length≤256∧∃ w0 w1 w2 w3 w4:List UInt8,∃ b0 b1 b2 b3 b4:Nat,ZcW t []=[w0,w1,w2,w3,w4]∧FR 0 w0 b0∧FR 1 w1 b1∧FR 2 w2 b2∧FR 3 w3 b3∧FR 4 w4 b4):=by
  by_cases h:t.length≤256
  rotate_left
  · unfold ZcS
    rw [decide_eq_true (show (256:Int)<((t.length:Nat):Int) by omega)]
    exact ⟨_,rfl,fun _=>rfl,fun _=>rfl,fun q=>by cases q⟩
  by_cases h5:(ZcW t []).length=5
  rotate_left
  · unfold ZcS
    rw [ZiX t h,decide_eq_false (show ¬ (256:Int)<((t.length:Nat):Int) by omega),cond_false,Option.bind_some]
    have:((((ZcW t []).length:Nat):Int) != 5)=true:=by simp;omega
    rw [this]
    exact ⟨_,rfl,fun _=>rfl,fun q=>absurd q (by omega),fun q=>by cases q⟩
  have hlen:=(Zg5 t []).1
  obtain ⟨w0,w1,w2,w3,w4,hw⟩:∃ w0 w1 w2 w3 w4,ZcW t []=[w0,w1,w2,w3,w4]:=by
    match ZcW t [],h5 with
    | [w0,w1,w2,w3,w4],_=>exact ⟨w0,w1,w2,w3,w4,rfl⟩
  rw [hw] at hlen
  have hl:∀ p,p∈[w0,w1,w2,w3,w4]→p.length≤900:=fun p hp=>by have:=hlen p hp;simp at this;omega
  obtain ⟨b0,e0,f0⟩:=ZgZ 0 (by decide) w0 (hl _ (by simp))
  obtain ⟨b1,e1,f1⟩:=ZgZ 1 (by decide) w1 (hl _ (by simp))
  obtain ⟨b2,e2,f2⟩:=ZgZ 2 (by decide) w2 (hl _ (by simp))
  obtain ⟨b3,e3,f3⟩:=ZgZ 3 (by decide) w3 (hl _ (by simp))
  obtain ⟨b4,e4,f4⟩:=ZgZ 4 (by decide) w4 (hl _ (by simp))
  have bad : ∀ (i : Nat) (e : Int), e ≠ 0 → ZbQ 4000000 [w0, w1, w2, w3, w4] 4000000 0 0 0 0 0 0 = some (.inl (⟨0, 0, 0, 0, 0, false, false⟩, (i : Int), e)) →
      ∃ r,ZcS 4000000 t=some r∧(r.2.2≠0→r.1=⟨0,0,0,0,0,false,false⟩)∧(256<t.length→r.2.2=2) ∧
        (r.2.2=0→t.length≤256∧∃ w0 w1 w2 w3 w4:List UInt8,∃ b0 b1 b2 b3 b4:Nat,ZcW t []=[w0,w1,w2,w3,w4]∧FR 0 w0 b0∧FR 1 w1 b1∧FR 2 w2 b2∧FR 3 w3 b3∧FR 4 w4 b4):=by
    intro i e he hS
    unfold ZcS
    rw [ZiX t h,hw,decide_eq_false (show ¬ (256:Int)<((t.length:Nat):Int) by omega),cond_false,Option.bind_some]
    refine ⟨(⟨0,0,0,0,0,false,false⟩,(i:Int),e),?_,fun _=>rfl,fun q=>absurd q (by omega),fun q=>absurd q he⟩
    simp only [hS]
    rfl
  have s0:=Zda [w0,w1,w2,w3,w4] rfl 3999999 0 (by decide) 0 0 0 0 0 w0 rfl b0 e0 f0
  have s1:=Zda [w0,w1,w2,w3,w4] rfl 3999998 1 (by decide) b0 0 0 0 0 w1 rfl b1 e1 f1
  have s2:=Zda [w0,w1,w2,w3,w4] rfl 3999997 2 (by decide) b0 b1 0 0 0 w2 rfl b2 e2 f2
  have s3:=Zda [w0,w1,w2,w3,w4] rfl 3999996 3 (by decide) b0 b1 b2 0 0 w3 rfl b3 e3 f3
  have s4:=Zda [w0,w1,w2,w3,w4] rfl 3999995 4 (by decide) b0 b1 b2 b3 0 w4 rfl b4 e4 f4
  by_cases q0:e0=0
  rotate_left
  · exact bad 0 e0 q0 (s0.trans (if_pos q0))
  by_cases q1:e1=0
  rotate_left
  · exact bad 1 e1 q1 ((s0.trans (if_neg (by simpa using q0))).trans (s1.trans (if_pos q1)))
  by_cases q2:e2=0
  rotate_left
  · exact bad 2 e2 q2 ((s0.trans (if_neg (by simpa using q0))).trans ((s1.trans (if_neg (by simpa using q1))).trans (s2.trans (if_pos q2))))
  by_cases q3:e3=0
  rotate_left
  · exact bad 3 e3 q3 ((s0.trans (if_neg (by simpa using q0))).trans ((s1.trans (if_neg (by simpa using q1))).trans ((s2.trans (if_neg (by simpa using q2))).trans (s3.trans (if_pos q3)))))
  by_cases q4:e4=0
  rotate_left
  · exact bad 4 e4 q4 ((s0.trans (if_neg (by simpa using q0))).trans ((s1.trans (if_neg (by simpa using q1))).trans ((s2.trans (if_neg (by simpa using q2))).trans ((s3.trans (if_neg (by simpa using q3))).trans (s4.trans (if_pos q4))))))
  subst q0;subst q1;subst q2;subst q3;subst q4
  exact ⟨_,ZlJ t h w0 w1 w2 w3 w4 hw b0 b1 b2 b3 b4 f0 f1 f2 f3 f4,fun q=>absurd rfl q,fun q=>absurd q (by omega),fun _=>⟨h,w0,w1,w2,w3,w4,b0,b1,b2,b3,b4,hw,f0,f1,f2,f3,f4⟩⟩
def fullN (n:Nat):Nat:=if n=0 then 1152921504606846975 else if n=1 then 16777215 else if n=2 then 4294967294 else if n=3 then 8190 else 127
theorem Zkj (n i:Nat) (hn:n<5) (h0:loF n≤(i:Int)) (h1:(i:Int)≤hiF n) (h4:n=4→i≤6):(fullN n).testBit i=true:=by
  have hall:((List.range 5).all fun n=>(List.range 60).all fun i=>!(decide (loF n≤(i:Int)) && decide ((i:Int)≤hiF n) && (n != 4 || decide (i≤6))) || (fullN n).testBit i)=true:=by decide +kernel
  have h:i<60→(fullN n).testBit i=true:=fun hi=>by
    have:=List.all_eq_true.1 (List.all_eq_true.1 hall n (List.mem_range.2 hn)) i (List.mem_range.2 hi)
    rw [decide_eq_true h0,decide_eq_true h1] at this
    have q:(n != 4 || decide (i≤6))=true:=by
      by_cases h:n=4
      · rw [decide_eq_true (h4 h),Bool.or_true]
      · rw [show (n != 4)=true by simpa using h];rfl
    rw [q] at this
    simpa using this
  refine h ?_
  unfold hiF at h1
  by_cases a:n=0
  · rw [if_pos a] at h1;omega
  rw [if_neg a] at h1
  by_cases b:n=1
  · rw [if_pos b] at h1;omega
  rw [if_neg b] at h1
  by_cases c:n=2
  · rw [if_pos c] at h1;omega
  rw [if_neg c] at h1
  by_cases d:n=3
  · rw [if_pos d] at h1;omega
  rw [if_neg d] at h1;omega
theorem FR.fold {n:Nat} (hn:n<5) {w:List UInt8} (hw:w.length≤900) {b:Nat} (h:FR n w b):∃ s,Zil n w=some (s,0)∧b=postF n s∧s<2 ^ 64∧s≠0∧∀ i,s.testBit i=true→loF n≤(i:Int)∧(i:Int)≤hiF n:=by
  unfold FR at h
  rw [Zl2 n hn w hw] at h
  cases hq:Zil n w with
  | none=>rw [hq] at h;cases h
  | some s =>
    rw [hq] at h
    obtain ⟨s,e⟩:=s
    simp only [Option.some.injEq,Prod.mk.injEq] at h
    obtain ⟨h1,rfl⟩:=h
    obtain ⟨i1,i2,_,_,i5⟩:=ZiO _ (loF n) (hiF n) (fun R hR=>by
      obtain ⟨x,hx,hR⟩:=List.mem_map.1 hR
      have hl:=(Zfe 44 w []).1 x hx
      have:=(Zid n (loF n) (hiF n) (by unfold loF;split<;>decide) (by unfold hiF;(repeat' split)<;>decide) (fun h=>by unfold loF;rw [if_neg (by omega)]) x (by simp at hl;omega)).1 R hR
      refine ⟨this.1,this.2.1,fun i hi=>?_⟩
      have q:=this.2.2 i hi
      have:max (hiF n) 6=hiF n:=by unfold hiF;(repeat' split)<;>decide
      rw [this] at q;exact q) 0 0 (s,0) (by decide) (fun i h=>by simp at h) hq
    refine ⟨s,rfl,by omega,i1,i5 (by simpa using Zm4 44 w []) (by simp),i2⟩
theorem FR.okF {n:Nat} (hn:n<5) {w:List UInt8} (hw:w.length≤900) {b:Nat} (h:FR n w b):b<2 ^ 64∧okF (b:Int) ((fullN n:Nat):Int)=true:=by
  obtain ⟨s,_,rfl,h1,h2,h3⟩:=h.fold hn hw
  have hf:fullN n<2 ^ 64:=by unfold fullN;(repeat' split)<;>decide
  by_cases hp:n=4∧s / 128≠0
  · have e:postF n s=(s &&& 127) ||| 1:=by unfold postF;rw [if_pos hp]
    have hl:(s &&& 127) ||| 1<2 ^ 64:=Nat.or_lt_two_pow (Nat.and_lt_two_pow _ (by decide)) (by decide)
    rw [e]
    refine ⟨hl,(Zk1 _ _ hl hf).2 ⟨fun q=>?_,fun i hi=>?_⟩⟩
    · have:=congrArg (fun n=>n.testBit 0) q
      simp at this
    · have hi7:i<7:=by
        apply Classical.byContradiction
        intro q
        have:((s &&& 127) ||| 1).testBit i=false:=Nat.testBit_lt_two_pow (Nat.lt_of_lt_of_le (Nat.or_lt_two_pow (Nat.and_lt_two_pow s (show 127<2 ^ 7 by decide)) (show 1<2 ^ 7 by decide)) (Nat.pow_le_pow_right (by decide) (by omega)))
        rw [hi] at this;cases this
      refine Zkj n i hn ?_ ?_ (fun _=>by omega)
      · rw [hp.1];unfold loF;simp
      · rw [hp.1];unfold hiF;simp;omega
  · have e:postF n s=s:=by unfold postF;rw [if_neg hp]
    rw [e]
    refine ⟨h1,(Zk1 _ _ h1 hf).2 ⟨h2,fun i hi=>?_⟩⟩
    have q:=h3 i hi
    refine Zkj n i hn q.1 q.2 (fun h4=>?_)
    have hs:s / 128=0:=by
      apply Classical.byContradiction
      intro q;exact hp ⟨h4,q⟩
    have hs7:s<2 ^ 7:=by omega
    apply Classical.byContradiction
    intro q
    rw [Nat.testBit_lt_two_pow (Nat.lt_of_lt_of_le hs7 (Nat.pow_le_pow_right (by decide) (by omega)))] at hi;cases hi
end Go.T.Cr
set_option linter.unusedVariables false
set_option linter.unusedSimpArgs false
namespace Go.T
open Go Go.Ab Go.T.Cr
theorem ZpQ (i b:Nat) (hi:i<5) (hb:b<2 ^ 64) (h:Cr.okF (b:Int) ((fullN i:Nat):Int)=true):∃ t,ZeO 4000000 (b:Int)=some t∧t.length≤360:=by
  have hf:fullN i<2 ^ 60:=by unfold fullN;(repeat' split)<;>decide
  have hb60:=ZqS b (fullN i) hb hf h
  obtain ⟨L,hL,hW⟩:=Zn7 b hb60 4000000 0 b [] hb60 (fun i=>by simp) (.inl rfl) (by decide) (by omega) (by simp)
  have h1:=ZlU L 5 44 (fun w hw=>(hW.words w hw).2)
  have h2:=(hW.len hb60).1
  have h3:(Lib.join L [44]).length≤360:=by
    have:(5+1) * L.length≤6 * 60:=by omega
    omega
  refine ⟨Lib.join L [44],?_,h3⟩
  unfold ZeO strings_Join
  rw [hL,List.nil_append,Option.bind_some,decide_eq_true (show (Lib.join L [44]).length≤140737488355328 by omega)];rfl
theorem Zf4 (i b : Nat) (hi : i < 5) (hb : b < 2 ^ 64) (h : Cr.okF (b : Int) ((fullN i : Nat) : Int) = true) (star : Bool) :
    ∃ t,(bif star then some ([42]:List UInt8) else ZeO 4000000 (b:Int))=some t∧t.length≤360:=by
  cases star with
  | true=>exact ⟨[42],rfl,by simp⟩
  | false=>exact ZpQ i b hi hb h
theorem Zi9 (a1 a2 a3 a4 a5 : Nat) (ad aw : Bool) (l1 : a1 < 2 ^ 64) (l2 : a2 < 2 ^ 64) (l3 : a3 < 2 ^ 64) (l4 : a4 < 2 ^ 64) (l5 : a5 < 2 ^ 64) :
    ∃ y,ZdU 4000000 ⟨a1,a2,a3,a4,a5,ad,aw⟩=some y:=by
  have hk:=Zpi 3999994 ⟨a1,a2,a3,a4,a5,ad,aw⟩
  simp only [show 3999994+6=4000000 from rfl] at hk
  cases h1:chkB ⟨a1,a2,a3,a4,a5,ad,aw⟩ with
  | false =>
    refine ⟨([],1),?_⟩
    unfold ZdU
    rw [hk,h1];rfl
  | true =>
    have h1':=h1
    simp only [chkB,Bool.and_eq_true] at h1
    obtain ⟨⟨⟨⟨⟨⟨k1,k2⟩,k3⟩,k4⟩,k5⟩,k6⟩,k7⟩:=h1
    obtain ⟨t1,u1,c1⟩:=Zf4 0 a1 (by decide) l1 k1 ((a1:Int)==1152921504606846975)
    obtain ⟨t2,u2,c2⟩:=Zf4 1 a2 (by decide) l2 k2 ((a2:Int)==16777215)
    obtain ⟨t3,u3,c3⟩:=Zf4 2 a3 (by decide) l3 k3 ad
    obtain ⟨t4,u4,c4⟩:=Zf4 3 a4 (by decide) l4 k4 ((a4:Int)==8190)
    obtain ⟨t5,u5,c5⟩:=Zf4 4 a5 (by decide) l5 k5 aw
    let A:Zcu:=⟨a1,a2,a3,a4,a5⟩
    let C:ZbI:=⟨a1,a2,a3,a4,a5,ad,aw⟩
    have r1:=Zfh C 3999999 A 0 a1 _ _ [] t1 (by decide) (by decide) (full0 _) rfl rfl u1 (by simp)
    have r2:=Zfh C 3999998 A 1 a2 _ _ [t1] t2 (by decide) (by decide) (full1 _) rfl rfl u2 (by simp)
    have r3:=Zfh C 3999997 A 2 a3 _ _ [t1,t2] t3 (by decide) (by decide) (full2 _) rfl rfl u3 (by simp)
    have r4:=Zfh C 3999996 A 3 a4 _ _ [t1,t2,t3] t4 (by decide) (by decide) (full3 _) rfl rfl u4 (by simp)
    have r5:=Zfh C 3999995 A 4 a5 _ _ [t1,t2,t3,t4] t5 (by decide) (by decide) (full4 _) rfl rfl u5 (by simp)
    have r6:ZbX 4000000 C A (3999994+1) 5 [t1,t2,t3,t4,t5]=some [t1,t2,t3,t4,t5]:=by
      rw [ZbX.eq_2];rfl
    have hS:ZbX 4000000 C A 4000000 0 []=some [t1,t2,t3,t4,t5]:=by
      refine r1.trans ?_
      refine r2.trans ?_
      refine r3.trans ?_
      refine r4.trans ?_
      exact r5.trans r6
    have hjl:=ZlU [t1,t2,t3,t4,t5] 360 32 (fun w hw=>by
      simp only [List.mem_cons,List.mem_nil_iff,or_false] at hw
      rcases hw with rfl | rfl | rfl | rfl | rfl<;>assumption)
    simp only [List.length_cons,List.length_nil] at hjl
    refine ⟨(Lib.join [t1,t2,t3,t4,t5] [32],0),?_⟩
    unfold ZdU
    rw [hk,h1',Option.bind_some]
    simp only [Bool.not_true,cond_false,Zek,Option.bind_some]
    rw [hS,Option.bind_some]
    unfold strings_Join
    rw [decide_eq_true (show (Lib.join [t1,t2,t3,t4,t5] [32]).length≤140737488355328 by omega)];rfl
theorem ZkZ (t:List UInt8):∃ r,ZcS 4000000 t=some r∧∃ y,ZdU 4000000 r.1=some y:=by
  obtain ⟨r,hr,h0,_,h1⟩:=ZoM t
  refine ⟨r,hr,?_⟩
  by_cases he:r.2.2=0
  · obtain ⟨hl,w0,w1,w2,w3,w4,b0,b1,b2,b3,b4,hw,f0,f1,f2,f3,f4⟩:=h1 he
    have hm:=ZlJ t hl w0 w1 w2 w3 w4 hw b0 b1 b2 b3 b4 f0 f1 f2 f3 f4
    rw [hr] at hm
    obtain rfl:=Option.some.inj hm
    have hlen:=(Zg5 t []).1
    rw [hw] at hlen
    have len:∀ p,p∈[w0,w1,w2,w3,w4]→p.length≤900:=fun p hp=>by
      have:=hlen p hp
      simp only [List.length_nil] at this
      omega
    have g0:=f0.okF (by decide) (len w0 (by simp))
    have g1:=f1.okF (by decide) (len w1 (by simp))
    have g2:=f2.okF (by decide) (len w2 (by simp))
    have g3:=f3.okF (by decide) (len w3 (by simp))
    have g4:=f4.okF (by decide) (len w4 (by simp))
    exact Zi9 b0 b1 b2 b3 b4 _ _ g0.1 g1.1 g2.1 g3.1 g4.1
  · rw [h0 he]
    exact Zi9 0 0 0 0 0 _ _ (by decide) (by decide) (by decide) (by decide) (by decide)
theorem ZoO (F:Nat) (name:List UInt8):∃ y,Zef F name=some y:=by
  unfold Zef
  simp only [cond_eq_ite]
  repeat' split
  all_goals exact ⟨_,rfl⟩
theorem ZoI (expr name:List UInt8):∃ r,ZfY 4000000 expr name=some r∧∃ y,ZdU 4000000 r.1=some y:=by
  obtain ⟨r,hr,hy⟩:=ZkZ expr
  obtain ⟨z,hz⟩:=ZoO 4000000 name
  unfold ZfY
  rw [hr,Option.bind_some]
  cases he:(r.2.2 != 0) with
  | true =>
    rw [cond_true]
    exact ⟨_,rfl,Zi9 0 0 0 0 0 _ _ (by decide) (by decide) (by decide) (by decide) (by decide)⟩
  | false =>
    rw [cond_false,hz,Option.bind_some]
    cases z with
    | inl z=>exact ⟨_,rfl,hy⟩
    | inr z=>exact ⟨_,rfl,hy⟩
theorem ZoH (j:Zaf) (h:j.Name.length≤1048576):∃ v,ZdA FM j=some v:=by
  obtain ⟨r,hr,y,hy⟩:=ZoI j.Expr j.Zone
  unfold ZdA
  rw [hr,Option.bind_some,Zd3 h (by decide),hy]
  have hm:∃ m,ZeL FM j.Mark=some m:=by
    unfold ZeL
    simp only [cond_eq_ite]
    split<;>exact ⟨_,rfl⟩
  obtain ⟨m,hm⟩:=hm
  rw [hm]
  simp only [Option.bind_some,cond_eq_ite]
  repeat' split
  all_goals first | exact ⟨_,rfl⟩ | (simp only [Option.bind_some];repeat' split)
  all_goals exact ⟨_,rfl⟩
end Go.T
set_option linter.unusedVariables false
set_option linter.unusedSimpArgs false
namespace Go.T
open Go Go.Ab
theorem Zjj (l:List Zaf) (hl:l.length≤2000000) (h:∀ j,j∈l→j.Name.length≤1048576):∃ v,ZdC FM l=some v:=by
  have hL:=(ZgU l hl FM 0 (by show _<4000000;omega)).2.2.1 (fun j hj=>ZoH j (h j hj))
  simp only [Int.natCast_zero] at hL
  unfold ZdC
  rcases hL with e | e<;>rw [e]<;>exact ⟨_,rfl⟩
def ZdR (jobs:List Zaf) (seen:List Zac):Zaa:=⟨1,1,1,[],[],jobs,seen⟩
theorem Zlo (jobs : List Zaf) (seen : List Zac) (hl : jobs.length ≤ 2000000) (h : ∀ j, j ∈ jobs → j.Name.length ≤ 1048576) (hs : ∃ b, Zbl FM seen = some b) :
    ∃ v,Zb2 FM (ZdR jobs seen)=some v∧(v=true→JobsR jobs∧Zbl FM seen=some true∧∀ j,j∈jobs→nm j.Name=true):=by
  obtain ⟨v,hv⟩:=Zjj jobs hl h
  obtain ⟨b,hb⟩:=hs
  have hk:Zd0 FM []=some true:=by rw [Zj7 _ (by simp)];rfl
  unfold Zb2 ZdR
  simp only [show decide ((1:Int)<1)=false from rfl,show decide ((1099511627776:Int)<1)=false from rfl,show decide ((4:Int)<1)=false from rfl,cond_false,hk,Option.bind_some,Bool.not_true]
  simp only [Option.bind_some,Bool.not_true,cond_false,beq_self_eq_true,hv,hb]
  cases v with
  | false=>exact ⟨false,rfl,fun e=>by cases e⟩
  | true =>
    cases b with
    | false=>exact ⟨false,rfl,fun e=>by cases e⟩
    | true =>
      simp only [Bool.not_true,cond_false,show ((1:Int)==4)=false from rfl,Option.bind_some]
      have hJ:=Zka jobs hl hv
      rcases ZiM jobs (ZdR jobs seen) hl (by simp [ZdR]) (by simp [ZdR]) h with ⟨q,e⟩ | ⟨⟨j,hj,q⟩,e⟩
      · rw [show Zat FM jobs ⟨1,1,1,[],[],jobs,seen⟩=some false from e]
        refine ⟨true,rfl,fun _=>⟨hJ,by first | trivial | exact hb,fun j hj=>?_⟩⟩
        have:=q j hj
        simp only [Bool.and_eq_true] at this
        have h2:=this.2
        unfold inB at h2
        simp only [Bool.and_eq_true] at h2
        exact h2.1.1
      · rw [show Zat FM jobs ⟨1,1,1,[],[],jobs,seen⟩=some true from e]
        exact ⟨false,rfl,fun e=>by cases e⟩
theorem ZmZ (jobs : List Zaf) (seen : List Zac) (hl : jobs.length ≤ 2000000) (h : ∀ j, j ∈ jobs → j.Name.length ≤ 1048576) (hs : ∃ b, Zbl FM seen = some b) :
    ∃ v,Zc0 FM [ZdR jobs seen]=some v∧(v=true→JobsR jobs∧Zbl FM seen=some true∧∀ j,j∈jobs→nm j.Name=true):=by
  obtain ⟨v,hv,hw⟩:=Zlo jobs seen hl h hs
  have hL:=ZiG [ZdR jobs seen] (by simp) FM 0 (by show (1:Nat) - 0<4000000;omega)
  obtain ⟨l1,l2,l3,l4⟩:=hL
  simp only [Int.natCast_zero] at l1 l2 l3 l4
  have:=l3 (fun x hx=>by
    rw [List.mem_singleton] at hx
    subst hx
    exact ⟨v,hv⟩)
  unfold Zc0
  rcases this with e | e
  · have q:=(l2 e 0 (by simp) (Nat.le_refl _)).1
    simp only [List.getElem_cons_zero] at q
    rw [hv] at q
    obtain rfl:=Option.some.inj q
    rw [e]
    refine ⟨true,?_,fun _=>hw rfl⟩
    simp only [Option.bind_some,Sum.elim_inr]
    rw [decide_eq_true (by simp),cond_true,Zib _ (by simp),Option.bind_some]
    rfl
  · rw [e]
    exact ⟨false,rfl,fun e=>by cases e⟩
end Go.T
set_option linter.unusedVariables false
set_option linter.unusedSimpArgs false
namespace Go.T
open Go Go.Ab
theorem Zn2 {α:Type} (l:List α) (i:Nat) (h:i<l.length):l=l.take i++l[i]::l.drop (i+1):=by
  rw [← List.drop_eq_getElem_cons h,List.take_append_drop]
theorem Zqo {α:Type} (l:List α) (i:Nat) (h:i+1<l.length):l=l.take i++l[i]::l[i+1]::l.drop (i+2):=by
  rw [← List.drop_eq_getElem_cons h]
  exact Zn2 l i (by omega)
end Go.T
set_option linter.unusedVariables false
set_option linter.unusedSimpArgs false
namespace Go.T
open Go Go.Ab
def ZdH:Zab:=⟨[],[],1,1,1⟩
theorem Zpy (G:Int) (h1:1≤G) (h2:G≤8):Mp G 1 [ZdH]:=by
  refine ⟨h1,h2,by decide,by simp,?_,by simp,fun s hs=>?_⟩
  · rw [ZeR]
    exact ⟨rfl,.inl ⟨rfl,rfl⟩⟩
  · rw [List.mem_singleton] at hs
    subst hs
    exact ⟨by decide,by decide,by decide,by decide,by decide,h1⟩
theorem ZqT (G:Int):(1≤G∧G≤8∧ZeW FM G=some (⟨G,1,[ZdH],noP⟩,0))∨(∃ a,ZeW FM G=some (a,1)):=by
  unfold ZeW
  by_cases h:1≤G∧G≤8
  · left
    refine ⟨h.1,h.2,?_⟩
    have hc:=ZhN (a:=⟨G,1,[ZdH],noP⟩) (ZdO (a:=⟨G,1,[ZdH],noP⟩) (Zpy G h.1 h.2)) rfl
    rw [show (⟨0,0,0,0,0,0,0,[]⟩:Zap)=noP from rfl,show (⟨[],[],1,1,1⟩:Zab)=ZdH from rfl,hc]
    rfl
  · right
    rcases Zl8 (F:=FM) (a:=⟨G,1,[ZdH],noP⟩) (by simp) (fun s hs=>by rw [List.mem_singleton] at hs;subst hs;simp [ZdH]) (by decide) with ⟨q,_⟩ | ⟨_,q⟩
    · exfalso
      exact h ⟨by have:=q.1;simp only at this;omega,by have:=q.2.1;simp only at this;omega⟩
    · rw [show (⟨0,0,0,0,0,0,0,[]⟩:Zap)=noP from rfl,show (⟨[],[],1,1,1⟩:Zab)=ZdH from rfl,q]
      exact ⟨_,rfl⟩
def Zgt (n:Nat) (jobs:List Zaf) (seen:List Zac):Grs:=(List.replicate n []).set 0 [ZdR jobs seen]
theorem Zn3 {jobs:List Zaf} (hn:∀ j,j∈jobs→nm j.Name=true):cutJ jobs [] []=jobs:=by
  unfold cutJ
  rw [List.filter_eq_self]
  intro j hj
  unfold inB
  rw [hn j hj,ZkA];rfl
theorem Zl1 (n:Nat) (hn:0<n) (jobs:List Zaf) (seen:List Zac) (g:Nat):gr (Zgt n jobs seen) g=if g=0 then [ZdR jobs seen] else []:=by
  unfold Zgt
  rw [ZlZ (by simpa using hn)]
  split
  · rfl
  · unfold gr
    rw [List.getD_eq_getElem?_getD]
    by_cases c:g<n
    · simp [c]
    · rw [List.getElem?_eq_none (by simp;omega)];rfl
theorem ZhK (n:Nat) (hn:0<n) (jobs:List Zaf) (seen:List Zac) (g:Nat) (id:Int):lk (Zgt n jobs seen) g id=if g=0∧id=1 then some (ZdR jobs seen) else none:=by
  unfold lk
  rw [Zl1 n hn]
  by_cases c:g=0
  · rw [if_pos c,ZdK]
    by_cases c2:id=1
    · rw [if_pos (show (ZdR jobs seen).Id=id by subst c2;rfl),if_pos (show g=0∧id=1 from ⟨c,c2⟩)]
    · rw [if_neg (show ¬ (ZdR jobs seen).Id=id from fun e=>c2 (by rw [← e];rfl)),if_neg (show ¬ (g=0∧id=1) from fun e=>c2 e.2),Zje]
  · rw [if_neg c,if_neg (fun e=>c e.1),Zje]
theorem Zoz (n:Nat):((List.replicate n ([]:List Zaa)).map liveN).sum=0:=by
  induction n with
  | zero=>rfl
  | succ n ih=>rw [List.replicate_succ,List.map_cons,List.sum_cons,ih];rfl
theorem ZnW {jobs:List Zaf} {seen:List Zac} (hst:Start jobs seen) (G:Int) (h1:1≤G) (h2:G≤8):Inv jobs seen G 1 [ZdH] (Zgt G.toNat jobs seen):=by
  have hn:0<G.toNat:=by omega
  have hS:ZdR jobs seen=spanS jobs seen ZdH:=by
    unfold ZdR spanS ZdH
    rw [Zn3 hst.2.2.1]
  have hgood:GoodS (ZdR jobs seen):=by
    rw [hS]
    exact Zf0 hst 1 1 1 [] [] (by decide) (by decide) (by decide) (by decide) (by decide) rfl
  refine ⟨Zpy G h1 h2,by unfold Zgt;simp;omega,⟨fun g=>?_,fun g id s hs=>?_⟩,fun s hs=>?_,fun g id x hx=>?_,fun s hs g x hg hx=>?_,?_⟩
  · rw [Zl1 _ hn]
    split
    · exact List.pairwise_singleton _ _
    · exact List.Pairwise.nil
  · rw [ZhK _ hn] at hs
    split at hs
    · rename_i c
      obtain rfl:=Option.some.inj hs
      exact ⟨hgood,by omega,by omega⟩
    · cases hs
  · rw [List.mem_singleton] at hs
    subst hs
    rw [ZhK _ hn,if_pos ⟨rfl,rfl⟩,hS]
  · rw [ZhK _ hn] at hx
    split at hx
    · rename_i c
      obtain rfl:=Option.some.inj hx
      exact .inr ⟨ZdH,List.mem_singleton.2 rfl,c.1.symm,hS⟩
    · cases hx
  · rw [List.mem_singleton] at hs
    subst hs
    rw [ZhK _ hn,if_neg (fun e=>hg e.1)] at hx
    cases hx
  · unfold liveT Zgt
    have:=Zn8 liveN (List.replicate G.toNat []) 0 (by simpa using hn) [ZdR jobs seen]
    rw [Zoz] at this
    have e:liveN [ZdR jobs seen]=1:=rfl
    have e0:liveN ((List.replicate G.toNat ([]:List Zaa))[0]'(by simpa using hn))=0:=by simp [liveN]
    show _=1
    omega
end Go.T
