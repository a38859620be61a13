import Derived.Test.YthohllgoneadhaaGreatDoorSem
import Derived.KernelRfl
import Derived.Lib.Join
import Derived.Test.YthohllgoneadhaaGreatDoorLStrA
import Derived.Test.YthohllgoneadhaaGreatDoorLawB
set_option linter.unusedVariables false
set_option linter.unusedSimpArgs false
namespace Go.T.Cr
open Go Go.Ab Go.Proofs Go.T
theorem full0 (F:Nat):cron_full F 0=some 1152921504606846975:=rfl
theorem full1 (F:Nat):cron_full F 1=some 16777215:=rfl
theorem full2 (F:Nat):cron_full F 2=some 4294967294:=rfl
theorem full3 (F:Nat):cron_full F 3=some 8190:=rfl
theorem full4 (F:Nat):cron_full F 4=some 127:=rfl
def okF (b full:Int):Bool:=b != 0 && ibits BinOp.andNot IntKind.u64 b full==0
def chkB (c:api_Cron):Bool :=
  okF c.Minute 1152921504606846975 && okF c.Hour 16777215 && okF c.Day 4294967294 && okF c.Month 8190 && okF c.Week 127 &&
    (!c.AnyDay || c.Day==4294967294) && (!c.AnyWeek || c.Week==127)
theorem chk_step (F n : Nat) (a : A_5_uint64) (i : Int) (b f : Int) (h0 : 0 ≤ i) (h5 : i < 5) (hf : cron_full F i = some f)
    (hb:b=if i=0 then a.e0 else if i=1 then a.e1 else if i=2 then a.e2 else if i=3 then a.e3 else a.e4) :
    cron_Check_l0 F a (n+1) i=bif okF b f then cron_Check_l0 F a n (i+1) else some (.inl false):=by
  rw [cron_Check_l0.eq_2,hf]
  have hw:IntKind.wrap IntKind.i64 (i+1)=i+1:=by simp [IntKind.wrap,IntKind.signed,IntKind.bits];omega
  rw [hw]
  have h:i=0∨i=1∨i=2∨i=3∨i=4:=by omega
  have e:(bif decide ((0:Int)≤i) then (bif decide (i<5) then (bif i==0 then some a.e0 else bif i==1 then some a.e1 else bif i==2 then some a.e2 else bif i==3 then some a.e3 else bif i==4 then some a.e4 else none) else none) else none)=some b:=by
    rcases h with rfl | rfl | rfl | rfl | rfl<;>(subst hb;rfl)
  rw [e]
  clear e hb h hw
  simp only [h5,decide_true,cond_true,Option.bind_some,okF,bne]
  cases (b==0)<;>cases (ibits BinOp.andNot IntKind.u64 b f==0)<;>rfl
theorem check_eq (k:Nat) (c:api_Cron):cron_Check (k+6) c=some (chkB c):=by
  have h0:=chk_step (k+6) (k+5) ⟨c.Minute,c.Hour,c.Day,c.Month,c.Week⟩ 0 _ _ (by decide) (by decide) (full0 _) rfl
  have h1:=chk_step (k+6) (k+4) ⟨c.Minute,c.Hour,c.Day,c.Month,c.Week⟩ 1 _ _ (by decide) (by decide) (full1 _) rfl
  have h2:=chk_step (k+6) (k+3) ⟨c.Minute,c.Hour,c.Day,c.Month,c.Week⟩ 2 _ _ (by decide) (by decide) (full2 _) rfl
  have h3:=chk_step (k+6) (k+2) ⟨c.Minute,c.Hour,c.Day,c.Month,c.Week⟩ 3 _ _ (by decide) (by decide) (full3 _) rfl
  have h4:=chk_step (k+6) (k+1) ⟨c.Minute,c.Hour,c.Day,c.Month,c.Week⟩ 4 _ _ (by decide) (by decide) (full4 _) rfl
  have h5:cron_Check_l0 (k+6) ⟨c.Minute,c.Hour,c.Day,c.Month,c.Week⟩ (k+1) 5=some (.inr ()):=rfl
  simp only [show (0:Int)+1=1 from rfl,show (1:Int)+1=2 from rfl,show (2:Int)+1=3 from rfl,show (3:Int)+1=4 from rfl,show (4:Int)+1=5 from rfl] at h0 h1 h2 h3 h4
  simp only [if_true,show ¬ (1:Int)=0 by decide,show ¬ (2:Int)=0 by decide,show ¬ (3:Int)=0 by decide,show ¬ (4:Int)=0 by decide,show ¬ (2:Int)=1 by decide,show ¬ (3:Int)=1 by decide,
    show ¬ (4:Int)=1 by decide,show ¬ (3:Int)=2 by decide,show ¬ (4:Int)=2 by decide,show ¬ (4:Int)=3 by decide,if_false] at h0 h1 h2 h3 h4
  unfold cron_Check cron_fields
  simp only [Option.bind_some,h0,h1,h2,h3,h4,h5,full2,full4,chkB]
  cases okF c.Minute 1152921504606846975<;>cases okF c.Hour 16777215<;>cases okF c.Day 4294967294<;>cases okF c.Month 8190<;>cases okF c.Week 127<;>try rfl
  cases c.AnyDay<;>cases c.AnyWeek<;>simp
  all_goals cases c.Day==4294967294<;>rfl
theorem wrap_u64 (n:Nat) (h:n<2 ^ 64):IntKind.wrap .u64 (n:Int)=n:=by
  simp only [IntKind.wrap,IntKind.signed,IntKind.bits]
  simp
  omega
theorem ofInt_nat (a:Nat):BitVec.ofInt 64 (a:Int)=BitVec.ofNat 64 a:=by simp [BitVec.ofInt_natCast]
theorem ib_or (a b:Nat) (ha:a<2 ^ 64) (hb:b<2 ^ 64):ibits .or .u64 (a:Int) (b:Int)=((a ||| b:Nat):Int):=by
  have:(BitVec.ofInt (IntKind.bits .u64) (a:Int) ||| BitVec.ofInt (IntKind.bits .u64) (b:Int)).toNat=a ||| b:=by
    show (BitVec.ofInt 64 (a:Int) ||| BitVec.ofInt 64 (b:Int)).toNat=_
    rw [ofInt_nat,ofInt_nat,BitVec.toNat_or,BitVec.toNat_ofNat,BitVec.toNat_ofNat,Nat.mod_eq_of_lt ha,Nat.mod_eq_of_lt hb]
  unfold ibits
  simp only [this]
  exact wrap_u64 _ (Nat.or_lt_two_pow ha hb)
theorem ib_and (a b:Nat) (ha:a<2 ^ 64) (hb:b<2 ^ 64):ibits .and .u64 (a:Int) (b:Int)=((a &&& b:Nat):Int):=by
  have:(BitVec.ofInt (IntKind.bits .u64) (a:Int) &&& BitVec.ofInt (IntKind.bits .u64) (b:Int)).toNat=a &&& b:=by
    show (BitVec.ofInt 64 (a:Int) &&& BitVec.ofInt 64 (b:Int)).toNat=_
    rw [ofInt_nat,ofInt_nat,BitVec.toNat_and,BitVec.toNat_ofNat,BitVec.toNat_ofNat,Nat.mod_eq_of_lt ha,Nat.mod_eq_of_lt hb]
  unfold ibits
  simp only [this]
  exact wrap_u64 _ (Nat.and_lt_two_pow _ hb)
def diffN (a b:Nat):Nat:=(BitVec.ofNat 64 a &&& ~~~BitVec.ofNat 64 b).toNat
theorem diffN_lt (a b:Nat):diffN a b<2 ^ 64:=BitVec.isLt _
theorem ib_not (a b:Nat):ibits .andNot .u64 (a:Int) (b:Int)=(diffN a b:Int):=by
  have:(BitVec.ofInt (IntKind.bits .u64) (a:Int) &&& ~~~BitVec.ofInt (IntKind.bits .u64) (b:Int)).toNat=diffN a b:=by
    show (BitVec.ofInt 64 (a:Int) &&& ~~~BitVec.ofInt 64 (b:Int)).toNat=_
    rw [ofInt_nat,ofInt_nat];rfl
  unfold ibits
  simp only [this]
  exact wrap_u64 _ (diffN_lt a b)
theorem diffN_bit (a b i:Nat) (ha:a<2 ^ 64) (hb:b<2 ^ 64):(diffN a b).testBit i=(a.testBit i && !b.testBit i):=by
  unfold diffN
  by_cases hi:i<64
  · rw [← BitVec.getLsbD,BitVec.getLsbD_and,BitVec.getLsbD_not]
    have e1:a % 18446744073709551616=a:=Nat.mod_eq_of_lt ha
    have e2:b % 18446744073709551616=b:=Nat.mod_eq_of_lt hb
    simp [BitVec.getLsbD,hi,e1,e2]
  · rw [Nat.testBit_lt_two_pow (Nat.lt_of_lt_of_le (BitVec.isLt _) (Nat.pow_le_pow_right (by decide) (by omega))),Nat.testBit_lt_two_pow (Nat.lt_of_lt_of_le ha (Nat.pow_le_pow_right (by decide) (by omega)))]
    rfl
theorem diffN_zero (a b:Nat) (ha:a<2 ^ 64) (hb:b<2 ^ 64):diffN a b=0↔∀ i,a.testBit i=true→b.testBit i=true:=by
  constructor
  · intro h i hi
    have:=diffN_bit a b i ha hb
    rw [h,Nat.zero_testBit,hi] at this
    simpa using this
  · intro h
    apply Nat.eq_of_testBit_eq
    intro i
    rw [diffN_bit a b i ha hb,Nat.zero_testBit]
    have q:=h i
    clear h
    revert q
    cases a.testBit i<;>cases b.testBit i<;>simp
theorem okF_nat (a f:Nat) (ha:a<2 ^ 64) (hf:f<2 ^ 64):okF a f=true↔a≠0∧∀ i,a.testBit i=true→f.testBit i=true:=by
  unfold okF
  rw [ib_not,Bool.and_eq_true]
  constructor
  · rintro ⟨h1,h2⟩
    refine ⟨by simpa using h1,(diffN_zero a f ha hf).1 ?_⟩
    have:=beq_iff_eq.1 h2
    omega
  · rintro ⟨h1,h2⟩
    refine ⟨by simpa using h1,?_⟩
    rw [(diffN_zero a f ha hf).2 h2];rfl
theorem wrap_i64 (n:Int) (h0 : -9223372036854775808≤n) (h1:n<9223372036854775808):IntKind.wrap .i64 n=n:=by
  simp only [IntKind.wrap,IntKind.signed,IntKind.bits]
  simp
  omega
def numB (n:Nat):List UInt8:=if n<10 then [UInt8.ofNat (48+n)] else [UInt8.ofNat (48+n / 10),UInt8.ofNat (48+n % 10)]
theorem num_itoa:∀ n:Nat,n<60→Lib.itoa (n:Int)=numB n:=by decide +kernel
theorem numB_len (n:Nat):1≤(numB n).length∧(numB n).length≤2:=by unfold numB;split<;>simp
def word (n e:Nat):List UInt8:=if n<e then numB n++([45]++numB e) else numB n
theorem word_len (n e:Nat):1≤(word n e).length∧(word n e).length≤5:=by
  have a:=numB_len n
  have b:=numB_len e
  unfold word
  split
  · simp;omega
  · omega
def start (b i:Nat):Bool:=b.testBit i && (i==0 || !b.testBit (i - 1))
def EndAt (b k e:Nat):Prop:=k≤e∧(∀ i,k<i→i≤e→b.testBit i=true)∧b.testBit (e+1)=false
inductive WL (b:Nat):Nat→List (List UInt8)→Prop
  | done (p:Nat) (h:∀ i,p≤i→start b i=false):WL b p []
  | cons (p n e:Nat) (L:List (List UInt8)) (h1:p≤n) (h2:∀ i,p≤i→i<n→start b i=false) (h3:start b n=true) (h4:EndAt b n e) (h5:WL b (n+1) L):WL b p (word n e::L)
theorem WL.back {b p q:Nat} {L:List (List UInt8)} (hpq:p≤q) (hn:∀ i,p≤i→i<q→start b i=false) (h:WL b q L):WL b p L:=by
  cases h with
  | done _ h =>
    refine .done p fun i hi=>?_
    by_cases hq:i<q
    · exact hn i hi hq
    · exact h i (by omega)
  | cons _ n e L h1 h2 h3 h4 h5 =>
    refine .cons p n e L (by omega) (fun i hi hi'=>?_) h3 h4 h5
    by_cases hq:i<q
    · exact hn i hi hq
    · exact h2 i (by omega) hi'
theorem WL.len {b p:Nat} {L:List (List UInt8)} (hb:b<2 ^ 60) (h:WL b p L):L.length+p≤60+p∧(p≤60→L.length+p≤60):=by
  induction h with
  | done p _=>simp
  | cons p n e L h1 h2 h3 h4 h5 ih =>
    have hn:n<60:=by
      apply Classical.byContradiction
      intro q
      have:b.testBit n=false:=Nat.testBit_lt_two_pow (Nat.lt_of_lt_of_le hb (Nat.pow_le_pow_right (by decide) (by omega)))
      unfold start at h3
      rw [this] at h3;cases h3
    have:=ih.2 (by omega)
    simp only [List.length_cons]
    omega
theorem ctz_bits (x:Nat) (h0:x≠0) (h:x<2 ^ 64):∃ n,Lib.ctz 64 x=n∧n<64∧x.testBit n=true∧∀ i,i<n→x.testBit i=false:=by
  obtain ⟨m,hm,hlt⟩:=Lib.ctzFrom_spec 64 x (by omega) h
  have e:Lib.ctz 64 x=Lib.ctzFrom 64 x:=by unfold Lib.ctz;rw [if_neg h0]
  rw [e]
  generalize Lib.ctzFrom 64 x=n at hm hlt
  refine ⟨n,rfl,hlt,?_,fun i hi=>?_⟩
  · rw [hm,Nat.testBit_two_pow_mul]
    simp [Nat.testBit_zero]
  · rw [hm,Nat.testBit_two_pow_mul]
    have:¬ n≤i:=by omega
    simp [this]
theorem trail_eq (F x:Nat) (h:x<2 ^ 64):math_bits_TrailingZeros64 F (x:Int)=some ((Lib.ctz 64 x:Nat):Int):=by
  unfold math_bits_TrailingZeros64
  rw [decide_eq_true (show (0:Int)≤(x:Int)∧(x:Int)<18446744073709551616 by omega),cond_true,Int.toNat_natCast]
theorem itoa_eq (F n:Nat) (h:n<60):strconv_Itoa F (n:Int)=some (numB n):=by
  unfold strconv_Itoa
  rw [decide_eq_true (show (-9223372036854775808:Int)≤(n:Int)∧(n:Int)≤9223372036854775807 by omega),cond_true,num_itoa n h]
theorem xor_eq (a:Nat):ibits BinOp.xor IntKind.u64 (if ((IntKind.signed IntKind.u64)=true) then (-1:Int) else (IntKind.max IntKind.u64)) (a:Int)=(((~~~ BitVec.ofNat 64 a).toNat:Nat):Int):=by
  have e:(if ((IntKind.signed IntKind.u64)=true) then (-1:Int) else (IntKind.max IntKind.u64))=((2 ^ 64 - 1:Nat):Int):=by decide
  rw [e]
  have:(BitVec.ofInt (IntKind.bits .u64) ((2 ^ 64 - 1:Nat):Int) ^^^ BitVec.ofInt (IntKind.bits .u64) (a:Int)).toNat=(~~~ BitVec.ofNat 64 a).toNat:=by
    show (BitVec.ofInt 64 ((2 ^ 64 - 1:Nat):Int) ^^^ BitVec.ofInt 64 (a:Int)).toNat=_
    rw [ofInt_nat,ofInt_nat]
    congr 1
  unfold ibits
  simp only [this]
  exact wrap_u64 _ (BitVec.isLt _)
theorem not_bit (a i:Nat) (ha:a<2 ^ 64) (hi:i<64):((~~~ BitVec.ofNat 64 a).toNat).testBit i = !a.testBit i:=by
  rw [← BitVec.getLsbD,BitVec.getLsbD_not]
  have e1:a % 18446744073709551616=a:=Nat.mod_eq_of_lt ha
  simp [BitVec.getLsbD,hi,e1]
theorem fdiv_eq (a n:Nat) (hn:n<64):Int.fdiv (a:Int) ((2:Int) ^ (min (Int.toNat (n:Int)) 64))=((a >>> n:Nat):Int):=by
  rw [Int.toNat_natCast,Nat.min_eq_left (by omega),show ((2:Int) ^ n)=((2 ^ n:Nat):Int) by simp,Int.fdiv_eq_ediv_of_nonneg _ (Int.natCast_nonneg _),Nat.shiftRight_eq_div_pow]
  rfl
theorem all_eq (F n r:Nat) (hr:1≤r) (h:n+r≤60):cron_all F (n:Int) ((n+r - 1:Nat):Int)=some ((2 ^ n * (2 ^ r - 1):Nat):Int):=by
  unfold cron_all
  have w:IntKind.wrap .i64 (((n+r - 1:Nat):Int)+1)=((n+r:Nat):Int):=by rw [wrap_i64 _ (by omega) (by omega)];omega
  rw [w,decide_eq_true (show (0:Int)≤((n+r:Nat):Int) by omega),decide_eq_true (show (0:Int)≤(n:Int) by omega)]
  simp only [cond_true]
  have p1:(2:Nat) ^ (n+r)<2 ^ 64:=Nat.pow_lt_pow_right (by decide) (by omega)
  have p2:(2:Nat) ^ n<2 ^ 64:=Nat.pow_lt_pow_right (by decide) (by omega)
  have p3:(2:Nat) ^ n≤2 ^ (n+r):=Nat.pow_le_pow_right (by decide) (by omega)
  have e:∀ k:Nat,k<64→IntKind.wrap .u64 ((1:Int) * (2:Int) ^ (min (Int.toNat (k:Int)) 64))=((2 ^ k:Nat):Int):=by
    intro k hk
    rw [Int.toNat_natCast,Nat.min_eq_left (by omega),Int.one_mul,show ((2:Int) ^ k)=((2 ^ k:Nat):Int) by simp]
    exact wrap_u64 _ (Nat.pow_lt_pow_right (by decide) hk)
  rw [e (n+r) (by omega),e n (by omega),show ((2 ^ (n+r):Nat):Int) - ((2 ^ n:Nat):Int)=((2 ^ (n+r) - 2 ^ n:Nat):Int) by omega,wrap_u64 _ (Nat.lt_of_le_of_lt (Nat.sub_le _ _) p1)]
  congr 3
  rw [Nat.mul_sub,Nat.mul_one,Nat.pow_add]
theorem all_bit (n r i:Nat):(2 ^ n * (2 ^ r - 1)).testBit i=(decide (n≤i) && decide (i<n+r)):=by
  rw [Nat.testBit_two_pow_mul,Nat.testBit_two_pow_sub_one]
  by_cases h:n≤i
  · simp [h];omega
  · simp [h]
theorem code_loop (b : Nat) (hb : b < 2 ^ 60) : ∀ (fuel p c : Nat) (out : List (List UInt8)), c < 2 ^ 60 → (∀ i, c.testBit i = (decide (p ≤ i) && b.testBit i)) → (p = 0 ∨ b.testBit p = false) → p ≤ 60 → 61 - p < fuel → out.length ≤ p →
    ∃ L,cron_runs_l0 4000000 fuel (c:Int) out=some (out++L)∧WL b p L:=by
  have hbig:∀ i,60≤i→b.testBit i=false:=fun i hi=>Nat.testBit_lt_two_pow (Nat.lt_of_lt_of_le hb (Nat.pow_le_pow_right (by decide) hi))
  intro fuel
  induction fuel with
  | zero=>intro p c out _ _ _ _ h;omega
  | succ fuel ih =>
    intro p c out hc hbits hp hp60 hf hout
    have hc64:c<2 ^ 64:=Nat.lt_trans hc (by decide)
    rw [cron_runs_l0.eq_2]
    by_cases h0:c=0
    · subst h0
      refine ⟨[],by simp,.done p fun i hi=>?_⟩
      have:=hbits i
      rw [Nat.zero_testBit,decide_eq_true hi,Bool.true_and] at this
      unfold start
      rw [← this];rfl
    · rw [show ((c:Int) != 0)=true by simpa using h0,cond_true,trail_eq _ c hc64,Option.bind_some]
      obtain ⟨n,hn,hn64,hnb,hlow⟩:=ctz_bits c h0 hc64
      rw [hn]
      have hn1:=hbits n
      rw [hnb] at hn1
      have hpn:p≤n:=by
        apply Classical.byContradiction
        intro q
        rw [decide_eq_false q] at hn1;cases hn1
      have hbn:b.testBit n=true:=by
        rw [decide_eq_true hpn,Bool.true_and] at hn1;exact hn1.symm
      have hn60:n<60:=by
        apply Classical.byContradiction
        intro q
        rw [hbig n (by omega)] at hbn;cases hbn
      rw [decide_eq_true (show (0:Int)≤(n:Int) by omega),cond_true,fdiv_eq c n hn64]
      have hs60:c >>> n<2 ^ 60:=Nat.lt_of_le_of_lt (Nat.shiftRight_le _ _) hc
      have hs64:c >>> n<2 ^ 64:=Nat.lt_trans hs60 (by decide)
      rw [xor_eq]
      have hx0:(~~~ BitVec.ofNat 64 (c >>> n)).toNat≠0:=by
        intro e
        have:=not_bit (c >>> n) 63 hs64 (by decide)
        rw [e,Nat.zero_testBit,Nat.testBit_lt_two_pow (Nat.lt_of_lt_of_le hs60 (by decide))] at this
        cases this
      rw [trail_eq _ _ (BitVec.isLt _),Option.bind_some]
      obtain ⟨r,hr,hr64,hrb,hrlow⟩:=ctz_bits _ hx0 (BitVec.isLt _)
      rw [hr,itoa_eq _ n hn60,Option.bind_some]
      have hbit:∀ i,(c >>> n).testBit i=c.testBit (n+i):=fun i=>by rw [Nat.testBit_shiftRight]
      have hr1:c.testBit (n+r)=false:=by
        have:=not_bit (c >>> n) r hs64 hr64
        rw [hrb,hbit] at this
        cases hq:c.testBit (n+r)
        · rfl
        · rw [hq] at this;cases this
      have hr2:∀ i,i<r→c.testBit (n+i)=true:=fun i hi=>by
        have:=not_bit (c >>> n) i hs64 (by omega)
        rw [hrlow i hi,hbit] at this
        cases hq:c.testBit (n+i)
        · rw [hq] at this;cases this
        · rfl
      have hr0:1≤r:=by
        apply Classical.byContradiction
        intro q
        have:r=0:=by omega
        subst this
        rw [Nat.add_zero,hnb] at hr1;cases hr1
      have hnr:n+r≤60:=by
        apply Classical.byContradiction
        intro q
        have:=hr2 (r - 1) (by omega)
        rw [Nat.testBit_lt_two_pow (Nat.lt_of_lt_of_le hc (Nat.pow_le_pow_right (by decide) (by omega)))] at this;cases this
      have w1:IntKind.wrap .i64 ((IntKind.wrap .i64 ((n:Int)+(r:Int))) - 1)=((n+r - 1:Nat):Int):=by
        rw [wrap_i64 ((n:Int)+r) (by omega) (by omega),wrap_i64 _ (by omega) (by omega)];omega
      rw [w1]
      have la:=numB_len n
      have lb:=numB_len (n+r - 1)
      have hword:(bif (decide ((1:Int)<(r:Int))) then (Option.bind (strconv_Itoa 4000000 ((n+r - 1:Nat):Int)) fun y_27=>(bif decide (((List.length ([45]:List UInt8))+(List.length y_27))≤9223372036854775807) then (bif decide (((List.length (numB n))+(List.length (([45]:List UInt8)++y_27)))≤9223372036854775807) then some (numB n++(([45]:List UInt8)++y_27)) else none) else none)) else some (numB n))=some (word n (n+r - 1)):=by
        unfold word
        by_cases h1:1<r
        · rw [decide_eq_true (show (1:Int)<(r:Int) by omega),cond_true,itoa_eq _ (n+r - 1) (by omega),Option.bind_some,decide_eq_true (by simp;omega),cond_true,decide_eq_true (by simp;omega),cond_true,if_pos (by omega)]
        · rw [decide_eq_false (show ¬ (1:Int)<(r:Int) by omega),cond_false,if_neg (by omega)]
      rw [hword,Option.bind_some,decide_eq_true (show out.length+1≤LIM by unfold LIM;omega),cond_true,all_eq _ n r hr0 hnr,Option.bind_some,ib_not]
      have hc2bit:∀ i,(diffN c (2 ^ n * (2 ^ r - 1))).testBit i=(decide (n+r≤i) && b.testBit i):=by
        intro i
        have hlt:2 ^ n * (2 ^ r - 1)<2 ^ 64:=by
          have h1:2 ^ n * (2 ^ r - 1)<2 ^ n * 2 ^ r:=Nat.mul_lt_mul_of_pos_left (by have:=Nat.two_pow_pos r;omega) (Nat.two_pow_pos n)
          rw [← Nat.pow_add] at h1
          exact Nat.lt_trans h1 (Nat.pow_lt_pow_right (by decide) (by omega))
        rw [diffN_bit _ _ _ hc64 hlt,all_bit]
        by_cases q1:n+r≤i
        · rw [hbits i,decide_eq_true q1,decide_eq_true (show p≤i by omega),decide_eq_false (show ¬ i<n+r by omega)]
          simp
        · rw [decide_eq_false q1]
          by_cases q2:n≤i
          · rw [decide_eq_true q2,decide_eq_true (show i<n+r by omega)];simp
          · rw [hlow i (by omega)];simp
      have hc2:diffN c (2 ^ n * (2 ^ r - 1))<2 ^ 60:=by
        apply Nat.lt_pow_two_of_testBit
        intro i hi
        rw [hc2bit i,hbig i hi,Bool.and_false]
      have hbe:b.testBit (n+r)=false:=by
        have:=hbits (n+r)
        rw [hr1,decide_eq_true (show p≤n+r by omega),Bool.true_and] at this
        exact this.symm
      obtain ⟨L,hL,hW⟩:=ih (n+r) (diffN c (2 ^ n * (2 ^ r - 1))) (out++[word n (n+r - 1)]) hc2 hc2bit (.inr hbe) hnr (by omega) (by simp;omega)
      refine ⟨word n (n+r - 1)::L,by rw [hL];simp,?_⟩
      have hbr:∀ i,i<r→b.testBit (n+i)=true:=fun i hi=>by
        have:=hbits (n+i)
        rw [hr2 i hi,decide_eq_true (show p≤n+i by omega),Bool.true_and] at this
        exact this.symm
      have hstart:start b n=true:=by
        unfold start
        rw [hbn,Bool.true_and]
        by_cases hz:n=0
        · subst hz;rfl
        · have:b.testBit (n - 1)=false:=by
            by_cases hpe:p=n
            · subst hpe
              rcases hp with hp | hp
              · omega
              · rw [hp] at hbn;cases hbn
            · have:=hbits (n - 1)
              rw [hlow (n - 1) (by omega),decide_eq_true (show p≤n - 1 by omega),Bool.true_and] at this
              exact this.symm
          rw [this];simp
      refine .cons p n (n+r - 1) L hpn (fun i hi hi'=>?_) hstart ⟨by omega,fun i h1 h2=>?_,by rw [show n+r - 1+1=n+r by omega];exact hbe⟩ (hW.back (by omega) fun i hi hi'=>?_)
      · have:=hbits i
        rw [hlow i hi',decide_eq_true hi,Bool.true_and] at this
        unfold start
        rw [← this];rfl
      · have:=hbr (i - n) (by omega)
        rwa [show n+(i - n)=i by omega] at this
      · unfold start
        have h1:=hbr (i - 1 - n) (by omega)
        rw [show n+(i - 1 - n)=i - 1 by omega] at h1
        rw [h1]
        have:(i==0)=false:=by simp;omega
        rw [this];simp
theorem WL.words {b p:Nat} {L:List (List UInt8)} (h:WL b p L):∀ w,w∈L→1≤w.length∧w.length≤5:=by
  induction h with
  | done p _=>intro w hw;cases hw
  | cons p n e L h1 h2 h3 h4 h5 ih =>
    intro w hw
    rcases List.mem_cons.1 hw with rfl | hw
    · exact word_len n e
    · exact ih w hw
theorem tail_len:∀ (L:List (List UInt8)) (k m:Nat) (sep:List UInt8),sep.length=m→(∀ w,w∈L→w.length≤k)→(Lib.joinTail sep L).length≤(k+m) * L.length:=by
  intro L
  induction L with
  | nil=>intro k m sep _ _;simp [Lib.joinTail]
  | cons w L ih =>
    intro k m sep hm h
    have h1:=h w List.mem_cons_self
    have h2:=ih k m sep hm fun w hw=>h w (List.mem_cons_of_mem _ hw)
    simp only [Lib.joinTail,List.map_cons,List.flatten_cons,List.length_append,List.length_cons] at h2 ⊢
    rw [Nat.mul_add]
    omega
theorem join_len (L:List (List UInt8)) (k:Nat) (c:UInt8) (h:∀ w,w∈L→w.length≤k):(Lib.join L [c]).length≤(k+1) * L.length:=by
  cases L with
  | nil=>simp [Lib.join_nil]
  | cons w L =>
    rw [Lib.join_cons,List.length_append]
    have h1:=h w List.mem_cons_self
    have h2:=tail_len L k 1 [c] rfl fun w hw=>h w (List.mem_cons_of_mem _ hw)
    simp only [List.length_cons]
    rw [Nat.mul_add]
    omega
theorem print_step (c : api_Cron) (n : Nat) (a : A_5_uint64) (i b f : Int) (star : Bool) (l : List (List UInt8)) (t : List UInt8) (h0 : 0 ≤ i) (h5 : i < 5) (hf : cron_full 4000000 i = some f)
    (hb:b=if i=0 then a.e0 else if i=1 then a.e1 else if i=2 then a.e2 else if i=3 then a.e3 else a.e4)
    (hs:star=if i=2 then c.AnyDay else if i=4 then c.AnyWeek else (b==f)) (ht:(bif star then some ([42]:List UInt8) else cron_runs 4000000 b)=some t) (hl:l.length≤10) :
    cron_Print_l0 4000000 c a (n+1) i l=cron_Print_l0 4000000 c a n (i+1) (l++[t]):=by
  rw [cron_Print_l0.eq_2,hf,wrap_i64 (i+1) (by omega) (by omega)]
  have h:i=0∨i=1∨i=2∨i=3∨i=4:=by omega
  have e:(bif decide ((0:Int)≤i) then (bif decide (i<5) then (bif i==0 then some a.e0 else bif i==1 then some a.e1 else bif i==2 then some a.e2 else bif i==3 then some a.e3 else bif i==4 then some a.e4 else none) else none) else none)=some b:=by
    rcases h with rfl | rfl | rfl | rfl | rfl<;>(subst hb;rfl)
  have e2:(bif (i==2) then some c.AnyDay else (bif (i==4) then some c.AnyWeek else some (b==f)))=some star:=by
    rcases h with rfl | rfl | rfl | rfl | rfl<;>(subst hs;rfl)
  rw [e,Option.bind_some,Option.bind_some,e2,Option.bind_some,decide_eq_true h5,cond_true]
  cases star with
  | true =>
    have:t=[42]:=by simpa using ht.symm
    subst this
    rw [cond_true,decide_eq_true (show l.length+1≤LIM by unfold LIM;omega)];rfl
  | false =>
    rw [cond_false] at ht ⊢
    rw [ht,Option.bind_some,decide_eq_true (show l.length+1≤LIM by unfold LIM;omega)];rfl
theorem okF_lt (a f:Nat) (ha:a<2 ^ 64) (hf:f<2 ^ 60) (h:okF a f=true):a<2 ^ 60:=by
  have:=(okF_nat a f ha (Nat.lt_trans hf (by decide))).1 h
  apply Nat.lt_pow_two_of_testBit
  intro i hi
  cases hq:a.testBit i
  · rfl
  · have:=this.2 i hq
    rw [Nat.testBit_lt_two_pow (Nat.lt_of_lt_of_le hf (Nat.pow_le_pow_right (by decide) hi))] at this;cases this
end Go.T.Cr
set_option linter.unusedVariables false
set_option linter.unusedSimpArgs false
namespace Go.T.Cr
open Go Go.Ab Go.Proofs Go.T
def digB (c:UInt8):Bool:=([48,49,50,51,52,53,54,55,56,57]:List UInt8).contains c
theorem digB_nat (c:UInt8) (h:digB c=true):48≤c.toNat∧c.toNat≤57:=by
  have:∀ n:Nat,n<256→digB (UInt8.ofNat n)=true→48≤n∧n≤57:=by decide +kernel
  have q:=this c.toNat (UInt8.toNat_lt c)
  rw [UInt8.ofNat_toNat] at q
  exact q h
def numV (l:List UInt8):Nat:=l.foldl (fun a c=>a * 10+(c.toNat - 48)) 0
theorem parse_dig:∀ (l:List UInt8) (acc k:Nat),(∀ c,c∈l→digB c=true)→acc<10 ^ k→k+l.length≤18→Lib.parseUint10 acc l = .ok (l.foldl (fun a c=>a * 10+(c.toNat - 48)) acc)∧l.foldl (fun a c=>a * 10+(c.toNat - 48)) acc<10 ^ (k+l.length):=by
  intro l
  induction l with
  | nil=>intro acc k _ h _;exact ⟨rfl,by simpa using h⟩
  | cons c r ih =>
    intro acc k hd ha hk
    have hc:=digB_nat c (hd c List.mem_cons_self)
    simp only [List.length_cons] at hk
    have h17:(10:Nat) ^ k≤10 ^ 17:=Nat.pow_le_pow_right (by decide) (by omega)
    have hb:acc * 10+(c.toNat - 48)<10 ^ (k+1):=by rw [Nat.pow_succ];omega
    obtain ⟨h1,h2⟩:=ih _ (k+1) (fun d hd'=>hd d (List.mem_cons_of_mem _ hd')) hb (by omega)
    simp only [Lib.parseUint10,List.foldl_cons,List.length_cons]
    rw [if_pos hc,if_neg (by omega),if_neg (by omega)]
    exact ⟨h1,by rw [show k+(r.length+1)=k+1+r.length by omega];exact h2⟩
theorem numV_lt (l:List UInt8) (h:∀ c,c∈l→digB c=true) (hl:l.length≤4):numV l≤9999:=by
  have:=(parse_dig l 0 0 h (by decide) (by omega)).2
  have h2:(10:Nat) ^ (0+l.length)≤10 ^ 4:=Nat.pow_le_pow_right (by decide) (by omega)
  unfold numV
  omega
theorem atoi_dig (l:List UInt8) (h:∀ c,c∈l→digB c=true) (h1:1≤l.length) (hl:l.length≤4):Lib.atoiAll l = .ok (numV l:Int):=by
  cases l with
  | nil=>simp at h1
  | cons c r =>
    have hc:=digB_nat c (h c List.mem_cons_self)
    have hp:=(parse_dig (c::r) 0 0 h (by decide) (by omega)).1
    have hm:Lib.parseMag (c::r) = .ok (numV (c::r)):=by
      unfold Lib.parseMag
      rw [if_neg (by simp),hp];rfl
    have hlt:=numV_lt (c::r) h hl
    have n43:¬ (c.toNat=43∨c.toNat=45):=by omega
    have n45:¬ c.toNat=45:=by omega
    unfold Lib.atoiAll
    simp only [n45,show ¬ c.toNat=43 by omega,or_self,false_and,not_false_eq_true,true_and,if_false]
    rw [hm]
    simp only []
    rw [if_neg (by omega)]
theorem dw_nil {α:Type} (p:α→Bool) (l:List α):l.dropWhile p=[]↔∀ x,x∈l→p x=true:=by
  induction l with
  | nil=>simp
  | cons x l ih =>
    rw [List.dropWhile_cons]
    by_cases h:p x=true
    · rw [if_pos h,ih]
      constructor
      · intro q y hy
        rcases List.mem_cons.1 hy with rfl | hy
        · exact h
        · exact q y hy
      · intro q y hy
        exact q y (List.mem_cons_of_mem _ hy)
    · rw [if_neg h]
      constructor
      · intro q;cases q
      · intro q;exact absurd (q x List.mem_cons_self) h
theorem trim_nil (l cs:List UInt8):Lib.trimS l cs=[]↔∀ c,c∈l→cs.contains c=true:=by
  unfold Lib.trimS Lib.trimLeftS Lib.trimRightS
  constructor
  · intro h
    have h1:=(dw_nil _ _).1 h
    by_cases hd:l.reverse.dropWhile (cs.contains ·)=[]
    · intro c hc
      exact (dw_nil _ _).1 hd c (List.mem_reverse.2 hc)
    · exfalso
      obtain ⟨x,r,hx⟩:=List.exists_cons_of_ne_nil hd
      have hn:¬ cs.contains x=true:=by
        have:=List.head_dropWhile_not (p:=(cs.contains ·)) (l:=l.reverse) (by simpa using hd)
        simp only [hx,List.head_cons] at this
        rw [this];decide
      exact hn (h1 x (by rw [hx];simp))
  · intro h
    have:l.reverse.dropWhile (cs.contains ·)=[]:=(dw_nil _ _).2 fun c hc=>h c (List.mem_reverse.1 hc)
    rw [this];rfl
def isNum (s:List UInt8):Bool:=decide (1≤s.length) && decide (s.length≤4) && s.all digB
theorem number_eq (F:Nat) (s:List UInt8):cron_number F s=some (if isNum s then ((numV s:Int),true) else (0,false)):=by
  unfold cron_number isNum
  by_cases h1:1≤s.length
  · rw [decide_eq_false (show ¬ ((s.length:Nat):Int)<1 by omega),decide_eq_true h1]
    by_cases h2:s.length≤4
    · rw [decide_eq_false (show ¬ (4:Int)<((s.length:Nat):Int) by omega),decide_eq_true h2]
      simp only [cond_false,Bool.true_and]
      unfold strings_Trim
      rw [decide_eq_true (show s.length≤LIM∧_∧_ from ⟨by unfold LIM;omega,by decide,by decide⟩)]
      simp only [cond_true,Option.bind_some]
      by_cases h3:s.all digB=true
      · have hd:∀ c,c∈s→digB c=true:=List.all_eq_true.1 h3
        have ht:Lib.trimS s [48,49,50,51,52,53,54,55,56,57]=[]:=(trim_nil _ _).2 hd
        rw [ht,h3,if_pos rfl]
        unfold strconv_Atoi
        rw [atoi_dig s hd h1 h2,decide_eq_true (show s.length≤LIM by unfold LIM;omega)]
        rfl
      · have ht:Lib.trimS s [48,49,50,51,52,53,54,55,56,57]≠[]:=fun e=>h3 (List.all_eq_true.2 ((trim_nil _ _).1 e))
        have hb:(Lib.trimS s [48,49,50,51,52,53,54,55,56,57]==([]:List UInt8))=false:=by simpa using ht
        rw [hb,if_neg h3];rfl
    · rw [decide_eq_true (show (4:Int)<((s.length:Nat):Int) by omega),decide_eq_false h2];rfl
  · rw [decide_eq_true (show ((s.length:Nat):Int)<1 by omega),decide_eq_false h1];rfl
theorem isNum_dig {s:List UInt8} (h:isNum s=true):(∀ c,c∈s→digB c=true)∧1≤s.length∧s.length≤4:=by
  unfold isNum at h
  simp only [Bool.and_eq_true,decide_eq_true_eq] at h
  exact ⟨List.all_eq_true.1 h.2,h.1.1,h.1.2⟩
theorem number_ex (F:Nat) (s:List UInt8):∃ (n:Nat) (ok:Bool),cron_number F s=some ((n:Int),ok)∧n≤9999:=by
  rw [number_eq]
  by_cases h:isNum s=true
  · rw [if_pos h]
    exact ⟨_,_,rfl,numV_lt s (isNum_dig h).1 (isNum_dig h).2.2⟩
  · rw [if_neg h];exact ⟨0,false,rfl,by decide⟩
theorem cut_len (c:UInt8) (l:List UInt8):(Lib.cut l [c]).1.length≤l.length∧(Lib.cut l [c]).2.1.length≤l.length:=by
  rcases cut_one c l with ⟨_,e⟩ | ⟨p,r,h,_,e⟩
  · rw [e];simp
  · rw [e,h];simp;omega
theorem cut_eq (F:Nat) (s sep:List UInt8) (h:s.length≤1000):strings_Cut F s sep=some (Lib.cut s sep):=by
  unfold strings_Cut
  rw [decide_eq_true (by omega)];rfl
theorem read_ex (F:Nat) (s:List UInt8) (f:cron_span) (hs:s.length≤1000) (h0:0≤f.least):∃ it ok,cron_read F s f=some (it,ok)∧0≤it.step∧it.step≤9999∧0≤it.from_:=by
  unfold cron_read
  rw [cut_eq F s _ hs,Option.bind_some]
  have hl:=(cut_len 47 s).1
  have key:∃ (n:Nat) (ok:Bool),(bif (Lib.cut s [47]).2.2 then (Option.bind (cron_number F (Lib.cut s [47]).2.1) fun y_4=>some (y_4.1,y_4.2)) else some ((1:Int),true))=some ((n:Int),ok)∧n≤9999:=by
    cases (Lib.cut s [47]).2.2
    · exact ⟨1,true,rfl,by decide⟩
    · obtain ⟨n,ok,h,hn⟩:=number_ex F (Lib.cut s [47]).2.1
      rw [h];exact ⟨n,ok,rfl,hn⟩
  obtain ⟨n,ok,hk,hn⟩:=key
  rw [hk,Option.bind_some]
  simp only []
  cases (Lib.cut s [47]).1==([42]:List UInt8)
  · simp only [cond_false]
    rw [cut_eq F (Lib.cut s [47]).1 _ (by omega),Option.bind_some]
    obtain ⟨a,oka,ha,_⟩:=number_ex F (Lib.cut (Lib.cut s [47]).1 [45]).1
    obtain ⟨b,okb,hb,_⟩:=number_ex F (Lib.cut (Lib.cut s [47]).1 [45]).2.1
    rw [ha,Option.bind_some]
    cases (Lib.cut (Lib.cut s [47]).1 [45]).2.2<;>cases ok<;>cases oka<;>cases okb<;>(try rw [hb])<;>exact ⟨_,_,rfl,by simp,by simp;omega,by simp⟩
  · exact ⟨_,_,rfl,by simp,by simp;omega,h0⟩
theorem range_loop (F : Nat) (y : cron_item × Bool) (c : Int) (hc : c ≤ 63) (h1 : 1 ≤ y.1.step) (h2 : y.1.step ≤ 9999) : ∀ (n : Nat) (k : Int), 0 ≤ k → k ≤ 10100 → (c + 1 - k).toNat < n →
    ∃ R:Nat,R<2 ^ 64∧(∀ B:Nat,B<2 ^ 64→cron_field_l1 F y c n (B:Int) k=some ((B ||| R:Nat):Int))∧(∀ i,R.testBit i=true→k≤(i:Int)∧(i:Int)≤c)∧(k≤c→R.testBit k.toNat=true):=by
  intro n
  induction n with
  | zero=>intro k _ _ h;omega
  | succ n ih =>
    intro k hk hk2 h
    by_cases hkc:k≤c
    · obtain ⟨j,rfl⟩:=Int.eq_ofNat_of_zero_le hk
      have hj:j<64:=by omega
      have p1:(2:Nat) ^ j<2 ^ 64:=Nat.pow_lt_pow_right (by decide) hj
      have w:IntKind.wrap .i64 ((j:Int)+y.1.step)=(j:Int)+y.1.step:=by
        simp only [IntKind.wrap,IntKind.signed,IntKind.bits]
        simp
        omega
      obtain ⟨R,r1,r2,r3,r4⟩:=ih ((j:Int)+y.1.step) (by omega) (by omega) (by omega)
      refine ⟨2 ^ j ||| R,Nat.or_lt_two_pow p1 r1,fun B hB=>?_,fun i hi=>?_,fun _=>?_⟩
      · rw [cron_field_l1.eq_2,decide_eq_true hkc,decide_eq_true hk]
        simp only [cond_true]
        have e:IntKind.wrap .u64 ((1:Int) * (2:Int) ^ (min (Int.toNat (j:Int)) 64))=((2 ^ j:Nat):Int):=by
          rw [Int.toNat_natCast,Nat.min_eq_left (by omega),Int.one_mul,show ((2:Int) ^ j)=((2 ^ j:Nat):Int) by simp]
          exact wrap_u64 _ p1
        rw [e,ib_or B (2 ^ j) hB p1,w,r2 _ (Nat.or_lt_two_pow hB p1),Nat.or_assoc]
      · rw [Nat.testBit_or,Bool.or_eq_true] at hi
        rcases hi with hi | hi
        · rw [Nat.testBit_two_pow] at hi
          have:j=i:=by simpa using hi
          omega
        · have:=r3 i hi;omega
      · rw [Nat.testBit_or,Int.toNat_natCast,Nat.testBit_two_pow_self,Bool.true_or]
    · refine ⟨0,by decide,fun B hB=>?_,fun i hi=>by simp at hi,fun q=>absurd q hkc⟩
      rw [cron_field_l1.eq_2,decide_eq_false hkc]
      simp
inductive IO3 where
  | syn | bad | good (R:Nat)
def itemO (n lo hi:Int) (x:List UInt8):IO3 :=
  match cron_read 4000000 x ⟨lo,hi⟩ with
  | none=>.syn
  | some (it,ok) =>
    if ok=false then .syn
    else if it.from_<lo∨hi<it.to_∨it.to_<it.from_∨it.step=0 then .bad
    else .good ((cron_field_l1 4000000 (it,ok) (if x=[42]∧n=4 then 6 else it.to_) 4000000 0 it.from_).getD 0).toNat
theorem item_step (n lo hi : Int) (h0 : 0 ≤ lo) (h59 : hi ≤ 59) (h6 : n = 4 → lo = 0) (x : List UInt8) (hx : x.length ≤ 1000) :
    (∀ R,itemO n lo hi x = .good R→R<2 ^ 64∧R≠0∧∀ i,R.testBit i=true→lo≤(i:Int)∧(i:Int)≤max hi 6) ∧
    ∀ (L:List (List UInt8)) (fuel idx:Nat) (b:Nat) (e:Int),L[idx]? = some x→b<2 ^ 64→L.length≤1000 →
      cron_field_l0 4000000 n lo hi L (fuel+1) (b:Int) e (idx:Int)=match itemO n lo hi x with
        | .syn=>some (.inl (0,50))
        | .bad=>cron_field_l0 4000000 n lo hi L fuel (b:Int) 51 ((idx+1:Nat):Int)
        | .good R=>cron_field_l0 4000000 n lo hi L fuel ((b ||| R:Nat):Int) e ((idx+1:Nat):Int):=by
  obtain ⟨it,ok,hr,hs0,hs1,hf0⟩:=read_ex 4000000 x ⟨lo,hi⟩ hx h0
  have hit:itemO n lo hi x=if ok=false then .syn
    else if it.from_<lo∨hi<it.to_∨it.to_<it.from_∨it.step=0 then .bad
    else .good ((cron_field_l1 4000000 (it,ok) (if x=[42]∧n=4 then 6 else it.to_) 4000000 0 it.from_).getD 0).toNat:=by unfold itemO;rw [hr]
  have pre : ∀ (L : List (List UInt8)) (fuel idx : Nat) (b : Nat) (e : Int), L[idx]? = some x → L.length ≤ 1000 →
      cron_field_l0 4000000 n lo hi L (fuel+1) (b:Int) e (idx:Int)=Option.bind ((bif (!ok) then some (Sum.inl ((0:Int),(50:Int))) else (Option.bind (bif (decide (it.from_<lo)) then some true else (bif (decide (hi<it.to_)) then some true else (bif (decide (it.to_<it.from_)) then some true else some (it.step==(0:Int))))) fun t55_43=>(bif t55_43 then some (Sum.inr ((b:Int),(51:Int))) else (Option.bind (bif (x==([42]:List UInt8)) then some (n==(4:Int)) else some false) fun t61_44=>(Option.bind (bif t61_44 then some (6:Int) else some it.to_) fun c_45=>(Option.bind (cron_field_l1 4000000 (it,ok) c_45 4000000 (b:Int) it.from_) fun bits_46=>some (Sum.inr (bits_46,e)))))))):Option ((Int×Int) ⊕ (Int×Int))) (fun o21=>Sum.elim (fun r=>some (Sum.inl r)) (fun x=>cron_field_l0 4000000 n lo hi L fuel x.1 x.2 ((idx+1:Nat):Int)) o21):=by
    intro L fuel idx b e hL hl
    have hidx:idx<L.length:=(List.getElem?_eq_some_iff.1 hL).1
    rw [cron_field_l0.eq_2,decide_eq_true (show (idx:Int)<((L.length:Nat):Int) by omega),decide_eq_true (show (0:Int)≤(idx:Int) by omega),Int.toNat_natCast,hL]
    simp only [cond_true,Option.bind_some,hr]
    have w:IntKind.wrap .i64 ((idx:Int)+1)=((idx+1:Nat):Int):=by
      simp only [IntKind.wrap,IntKind.signed,IntKind.bits]
      simp
      omega
    rw [w]
  cases ok with
  | false =>
    rw [hit,if_pos rfl]
    refine ⟨fun R h=>(by cases h),fun L fuel idx b e hL _ hl=>?_⟩
    rw [pre L fuel idx b e hL hl];rfl
  | true =>
    rw [if_neg (by decide)] at hit
    by_cases hb:it.from_<lo∨hi<it.to_∨it.to_<it.from_∨it.step=0
    · rw [hit,if_pos hb]
      refine ⟨fun R h=>(by cases h),fun L fuel idx b e hL _ hl=>?_⟩
      rw [pre L fuel idx b e hL hl]
      have:(bif (decide (it.from_<lo)) then some true else (bif (decide (hi<it.to_)) then some true else (bif (decide (it.to_<it.from_)) then some true else some (it.step==(0:Int)))))=some true:=by
        by_cases q1:it.from_<lo
        · rw [decide_eq_true q1];rfl
        rw [decide_eq_false q1]
        by_cases q2:hi<it.to_
        · rw [decide_eq_true q2];rfl
        rw [decide_eq_false q2]
        by_cases q3:it.to_<it.from_
        · rw [decide_eq_true q3];rfl
        rw [decide_eq_false q3]
        have:it.step=0:=by omega
        rw [this];rfl
      rw [this];rfl
    · rw [if_neg hb] at hit
      have g1:¬ it.from_<lo:=fun q=>hb (.inl q)
      have g2:¬ hi<it.to_:=fun q=>hb (.inr (.inl q))
      have g3:¬ it.to_<it.from_:=fun q=>hb (.inr (.inr (.inl q)))
      have g4:it.step≠0:=fun q=>hb (.inr (.inr (.inr q)))
      have hto:(bif (x==([42]:List UInt8)) then some (n==(4:Int)) else some false)=some (decide (x=[42]∧n=4)):=by
        by_cases q:x=[42]
        · have:(x==([42]:List UInt8))=true:=by simpa using q
          rw [this,cond_true]
          by_cases q2:n=4
          · rw [decide_eq_true ⟨q,q2⟩,show (n==4)=true by simpa using q2]
          · rw [decide_eq_false (fun h=>q2 h.2),show (n==4)=false by simpa using q2]
        · have:(x==([42]:List UInt8))=false:=by simpa using q
          rw [this,cond_false,decide_eq_false (fun h=>q h.1)]
      have hc:(bif decide (x=[42]∧n=4) then some (6:Int) else some it.to_)=some (if x=[42]∧n=4 then 6 else it.to_):=by
        by_cases q:x=[42]∧n=4
        · rw [decide_eq_true q,if_pos q];rfl
        · rw [decide_eq_false q,if_neg q];rfl
      generalize hcc:(if x=[42]∧n=4 then 6 else it.to_)=c at hit hc
      have hc63:c≤max hi 6:=by
        by_cases q:x=[42]∧n=4
        · rw [if_pos q] at hcc;omega
        · rw [if_neg q] at hcc;omega
      have hfc:it.from_≤c:=by
        by_cases q:x=[42]∧n=4
        · rw [if_pos q] at hcc
          have hl0:=h6 q.2
          -- the star: from the least number on
          have:cron_read 4000000 [42] ⟨lo,hi⟩=some (⟨lo,hi,1⟩,true):=rfl
          rw [q.1,this] at hr
          have:=(Prod.mk.inj (Option.some.inj hr)).1
          rw [← this]
          show lo≤c
          omega
        · rw [if_neg q] at hcc;omega
      obtain ⟨R,r1,r2,r3,r4⟩:=range_loop 4000000 (it,true) c (by omega) (by simp;omega) hs1 4000000 it.from_ hf0 (by omega) (by omega)
      have hR:((cron_field_l1 4000000 (it,true) c 4000000 0 it.from_).getD 0).toNat=R:=by
        have:=r2 0 (by decide)
        rw [show ((0:Nat):Int)=0 from rfl] at this
        rw [this];simp
      rw [hR] at hit
      rw [hit]
      refine ⟨fun R' h=>?_,fun L fuel idx b e hL hbl hl=>?_⟩
      · injection h with h
        subst h
        refine ⟨r1,fun e=>?_,fun i hi'=>?_⟩
        · have:=r4 hfc
          rw [e,Nat.zero_testBit] at this;cases this
        · have:=r3 i hi';omega
      · rw [pre L fuel idx b e hL hl,decide_eq_false g1,decide_eq_false g2,decide_eq_false g3]
        have:(it.step==0)=false:=by simpa using g4
        simp only [this,cond_false,Bool.not_true,Option.bind_some,hto,hc,r2 b hbl]
        rfl
def foldO:List IO3→Nat×Int→Option (Nat×Int)
  | [],s=>some s
  | .syn::_,_=>none
  | .bad::r,(b,_)=>foldO r (b,51)
  | .good R::r,(b,e)=>foldO r (b ||| R,e)
theorem l0_fold (n lo hi : Int) (h0 : 0 ≤ lo) (h59 : hi ≤ 59) (h6 : n = 4 → lo = 0) (L : List (List UInt8)) (hL : ∀ x, x ∈ L → x.length ≤ 1000) (hl : L.length ≤ 1000) :
    ∀ (fuel idx:Nat) (b:Nat) (e:Int),b<2 ^ 64→idx≤L.length→L.length - idx<fuel →
      cron_field_l0 4000000 n lo hi L fuel (b:Int) e (idx:Int)=match foldO ((L.drop idx).map (itemO n lo hi)) (b,e) with | none=>some (.inl (0,50)) | some s=>some (.inr ((s.1:Int),s.2)):=by
  intro fuel
  induction fuel with
  | zero=>intro idx b e _ _ h;omega
  | succ fuel ih =>
    intro idx b e hb hi' h
    by_cases hlt:idx<L.length
    · have hx:L[idx]? = some L[idx]:=List.getElem?_eq_getElem hlt
      obtain ⟨hg,hst⟩:=item_step n lo hi h0 h59 h6 L[idx] (hL _ (List.getElem_mem hlt))
      rw [hst L fuel idx b e hx hb hl,List.drop_eq_getElem_cons hlt,List.map_cons]
      cases hq:itemO n lo hi L[idx] with
      | syn=>rfl
      | bad=>simp only [foldO];exact ih (idx+1) b 51 hb (by omega) (by omega)
      | good R=>simp only [foldO];exact ih (idx+1) (b ||| R) e (Nat.or_lt_two_pow hb (hg R hq).1) (by omega) (by omega)
    · have:idx=L.length:=by omega
      subst this
      rw [List.drop_length,List.map_nil,cron_field_l0.eq_2,decide_eq_false (by omega)];rfl
theorem splitA_len (c:UInt8):∀ (l cur:List UInt8),(∀ p,p∈splitA c l cur→p.length≤cur.length+l.length)∧(splitA c l cur).length≤l.length+1:=by
  intro l
  induction l with
  | nil=>intro cur;exact ⟨fun p hp=>by simp [splitA] at hp;subst hp;simp,by simp [splitA]⟩
  | cons x l ih =>
    intro cur
    unfold splitA
    by_cases h:x=c
    · rw [if_pos h]
      obtain ⟨i1,i2⟩:=ih []
      refine ⟨fun p hp=>?_,by simp;omega⟩
      rcases List.mem_cons.1 hp with rfl | hp
      · omega
      · have:=i1 p hp;simp at this ⊢;omega
    · rw [if_neg h]
      obtain ⟨i1,i2⟩:=ih (cur++[x])
      refine ⟨fun p hp=>?_,by simp;omega⟩
      have:=i1 p hp;simp at this ⊢;omega
theorem splitA_ne (c:UInt8):∀ (l cur:List UInt8),splitA c l cur≠[]:=by
  intro l
  induction l with
  | nil=>intro cur;simp [splitA]
  | cons x l ih =>
    intro cur
    unfold splitA
    split
    · simp
    · exact ih _
theorem wordsA_len:∀ (l cur:List UInt8),(∀ p,p∈wordsA l cur→p.length≤cur.length+l.length)∧(wordsA l cur).length≤l.length+1:=by
  intro l
  induction l with
  | nil =>
    intro cur
    unfold wordsA
    split
    · exact ⟨fun p hp=>(by cases hp),by simp⟩
    · exact ⟨fun p hp=>(by simp at hp;subst hp;simp),by simp⟩
  | cons x l ih =>
    intro cur
    unfold wordsA
    by_cases h:blankB x=true
    · rw [if_pos h]
      obtain ⟨i1,i2⟩:=ih []
      by_cases hc:cur=[]
      · rw [if_pos hc]
        exact ⟨fun p hp=>(by have:=i1 p hp;simp at this ⊢;omega),by simp;omega⟩
      · rw [if_neg hc]
        refine ⟨fun p hp=>?_,by simp;omega⟩
        rcases List.mem_cons.1 hp with rfl | hp
        · omega
        · have:=i1 p hp;simp at this ⊢;omega
    · rw [if_neg h]
      obtain ⟨i1,i2⟩:=ih (cur++[x])
      exact ⟨fun p hp=>(by have:=i1 p hp;simp at this ⊢;omega),by simp;omega⟩
def loF (n:Nat):Int:=if n=2∨n=3 then 1 else 0
def hiF (n:Nat):Int:=if n=0 then 59 else if n=1 then 23 else if n=2 then 31 else if n=3 then 12 else 7
def postF (n b:Nat):Nat:=if n=4∧b / 128≠0 then (b &&& 127) ||| 1 else b
def fieldO (n:Nat) (w:List UInt8):Option (Nat×Int):=foldO ((splitA 44 w []).map (itemO n (loF n) (hiF n))) (0,0)
theorem foldO_bits (A : List IO3) (lo hi : Int) (hA : ∀ R, IO3.good R ∈ A → R < 2 ^ 64 ∧ R ≠ 0 ∧ ∀ i, R.testBit i = true → lo ≤ (i : Int) ∧ (i : Int) ≤ hi) :
    ∀ (b:Nat) (e:Int) (s:Nat×Int),b<2 ^ 64→(∀ i,b.testBit i=true→lo≤(i:Int)∧(i:Int)≤hi)→foldO A (b,e)=some s →
      s.1<2 ^ 64∧(∀ i,s.1.testBit i=true→lo≤(i:Int)∧(i:Int)≤hi)∧(s.2=e∨s.2=51)∧(b≠0→s.1≠0)∧(A≠[]→s.2≠51→s.1≠0):=by
  induction A with
  | nil=>intro b e s hb hi' h;cases h;exact ⟨hb,hi',.inl rfl,id,fun q=>absurd rfl q⟩
  | cons a A ih =>
    intro b e s hb hi' h
    have hA':=fun R hR=>hA R (List.mem_cons_of_mem _ hR)
    cases a with
    | syn=>cases h
    | bad =>
      obtain ⟨i1,i2,i3,i4,i5⟩:=ih hA' b 51 s hb hi' h
      have:s.2=51:=by rcases i3 with q | q<;>exact q
      exact ⟨i1,i2,.inr this,i4,fun _ q=>absurd this q⟩
    | good R =>
      obtain ⟨r1,r2,r3⟩:=hA R List.mem_cons_self
      have hne:b ||| R≠0:=by
        intro q
        have:R=0:=by
          apply Nat.eq_of_testBit_eq
          intro i
          have:=congrArg (fun n=>n.testBit i) q
          simp only [Nat.testBit_or,Nat.zero_testBit,Bool.or_eq_false_iff] at this
          rw [this.2,Nat.zero_testBit]
        exact r2 this
      obtain ⟨i1,i2,i3,i4,i5⟩:=ih hA' (b ||| R) e s (Nat.or_lt_two_pow hb r1) (fun i hbi=>by
        rw [Nat.testBit_or,Bool.or_eq_true] at hbi
        rcases hbi with q | q
        · exact hi' i q
        · exact r3 i q) h
      exact ⟨i1,i2,i3,fun _=>i4 hne,fun _ _=>i4 hne⟩
theorem field_eq (n : Nat) (hn : n < 5) (w : List UInt8) (hw : w.length ≤ 900) :
    cron_field 4000000 w (n:Int)=match fieldO n w with | none=>some (0,50) | some s=>some ((postF n s.1:Int),s.2):=by
  have hb:∀ s,fieldO n w=some s→s.1<2 ^ 64∧(n=4→s.1<256):=by
    intro s hs
    obtain ⟨i1,i2,_⟩:=foldO_bits _ (loF n) (max (hiF n) 6) (fun R hR=>by
      obtain ⟨x,hx,hR⟩:=List.mem_map.1 hR
      have hl:=(splitA_len 44 w []).1 x hx
      exact (item_step n (loF n) (hiF n) (by unfold loF;split<;>decide) (by unfold hiF;(repeat' split)<;>decide) (fun h=>by unfold loF;rw [if_neg (by omega)]) x (by simp at hl;omega)).1 R hR) 0 0 s (by decide) (fun i h=>by simp at h) hs
    refine ⟨i1,fun h4=>?_⟩
    have:s.1<2 ^ 8:=Nat.lt_pow_two_of_testBit _ fun i hi=>by
      cases hq:s.1.testBit i
      · rfl
      · have:=(i2 i hq).2
        subst h4
        unfold hiF at this
        simp at this
        omega
    exact this
  have key:cron_field_l0 4000000 (n:Int) (loF n) (hiF n) (splitA 44 w []) 4000000 0 0 0=match fieldO n w with | none=>some (.inl (0,50)) | some s=>some (.inr ((s.1:Int),s.2)):=by
    have:=l0_fold n (loF n) (hiF n) (by unfold loF;split<;>decide) (by unfold hiF;(repeat' split)<;>decide) (fun h=>by unfold loF;rw [if_neg (by omega)]) (splitA 44 w []) (fun x hx=>by
      have:=(splitA_len 44 w []).1 x hx;simp at this;omega) (by have:=(splitA_len 44 w []).2;omega) 4000000 0 0 0 (by decide) (Nat.zero_le _) (by have:=(splitA_len 44 w []).2;omega)
    rw [List.drop_zero] at this
    exact this
  have hS:strings_Split 4000000 w [44]=some (splitA 44 w []):=by
    unfold strings_Split
    rw [decide_eq_true (show w.length≤1048576000∧1≤([44]:List UInt8).length from ⟨by omega,by decide⟩),cond_true,split_one 44 w.length w (Nat.le_refl _)]
  have h5:n=0∨n=1∨n=2∨n=3∨n=4:=by omega
  unfold cron_field
  have e1:(bif decide ((0:Int)≤(n:Int)) then (bif decide ((n:Int)<(5:Int)) then (bif ((n:Int)==(0:Int)) then some ((0:Int),(59:Int)) else (bif ((n:Int)==(1:Int)) then some ((0:Int),(23:Int)) else (bif ((n:Int)==(2:Int)) then some ((1:Int),(31:Int)) else (bif ((n:Int)==(3:Int)) then some ((1:Int),(12:Int)) else (bif ((n:Int)==(4:Int)) then some ((0:Int),(7:Int)) else none))))) else none) else none)=some (loF n,hiF n):=by
    rcases h5 with rfl | rfl | rfl | rfl | rfl<;>rfl
  rw [e1,Option.bind_some]
  simp only []
  rw [hS,Option.bind_some,key]
  cases hq:fieldO n w with
  | none=>rfl
  | some s =>
    obtain ⟨q1,q2⟩:=hb s hq
    obtain ⟨b,e⟩:=s
    simp only [Option.bind_some,Sum.elim_inr]
    by_cases h4:n=4
    · have e4:((n:Int)==4)=true:=by subst h4;rfl
      have e7:Int.fdiv (b:Int) ((2:Int) ^ (min (Int.toNat (7:Int)) 64))=((b / 128:Nat):Int):=by
        rw [show (min (Int.toNat (7:Int)) 64)=7 from rfl,show ((2:Int) ^ 7)=((128:Nat):Int) from rfl,Int.fdiv_eq_ediv_of_nonneg _ (Int.natCast_nonneg _)]
        rfl
      simp only [e4,cond_true,Option.bind_some,e7]
      by_cases hd:b / 128=0
      · have:(((b / 128:Nat):Int) != 0)=false:=by rw [hd];rfl
        rw [this]
        simp only [cond_false,Option.bind_some,postF]
        rw [if_neg (fun q=>q.2 hd)]
      · have:(((b / 128:Nat):Int) != 0)=true:=by simp;omega
        have ha:cron_all 4000000 0 6=some ((127:Nat):Int):=rfl
        rw [this,ha]
        simp only [cond_true,Option.bind_some,postF,ib_and b 127 q1 (by decide)]
        have:=ib_or (b &&& 127) 1 (Nat.and_lt_two_pow _ (by decide)) (by decide)
        rw [show ((1:Nat):Int)=1 from rfl] at this
        rw [this,if_pos ⟨h4,hd⟩]
    · have e4:((n:Int)==4)=false:=by simp;omega
      simp only [e4,cond_false,Option.bind_some,postF]
      rw [if_neg (fun q=>h4 q.1)]
def FR (n:Nat) (w:List UInt8) (b:Nat):Prop:=cron_field 4000000 w (n:Int)=some ((b:Int),0)
theorem parse_step (W : List (List UInt8)) (hW : W.length = 5) (k i : Nat) (hi : i < 5) (c0 c1 c2 c3 c4 : Int) (w : List UInt8) (hw : W[i]? = some w) (b e : Int) (hf : cron_field 4000000 w (i : Int) = some (b, e)) :
    cron_Parse_l0 4000000 W (k+1) (i:Int) c0 c1 c2 c3 c4=if e≠0 then some (.inl (⟨0,0,0,0,0,false,false⟩,(i:Int),e)) else
      cron_Parse_l0 4000000 W k ((i+1:Nat):Int) (if i=0 then b else c0) (if i=1 then b else c1) (if i=2 then b else c2) (if i=3 then b else c3) (if i=4 then b else c4):=by
  have w':IntKind.wrap .i64 ((i:Int)+1)=((i+1:Nat):Int):=by
    simp only [IntKind.wrap,IntKind.signed,IntKind.bits]
    simp
    omega
  rw [cron_Parse_l0.eq_2,hW,decide_eq_true (show (i:Int)<((5:Nat):Int) by omega),decide_eq_true (show (0:Int)≤(i:Int) by omega),Int.toNat_natCast,hw,w']
  simp only [cond_true,Option.bind_some,hf]
  by_cases he:e=0
  · subst he
    rw [if_neg (by simp)]
    simp only [bne_self_eq_false,cond_false]
    have h5:i=0∨i=1∨i=2∨i=3∨i=4:=by omega
    rcases h5 with rfl | rfl | rfl | rfl | rfl<;>rfl
  · rw [if_pos he,show (e != 0)=true by simpa using he];rfl
theorem field_ex (n:Nat) (hn:n<5) (w:List UInt8) (hw:w.length≤900):∃ (b:Nat) (e:Int),cron_field 4000000 w (n:Int)=some ((b:Int),e):=by
  rw [field_eq n hn w hw]
  cases fieldO n w with
  | none=>exact ⟨0,50,rfl⟩
  | some s=>exact ⟨_,_,rfl⟩
theorem words_eq (t:List UInt8) (h:t.length≤256):strings_FieldsFunc 4000000 t=some (wordsA t []):=by
  unfold strings_FieldsFunc
  have:=(wordsA_len t []).2
  rw [fields_words,decide_eq_true (show t.length≤LIM∧(wordsA t []).length≤LIM from ⟨by unfold LIM;omega,by unfold LIM;omega⟩)];rfl
theorem parse_mk (t : List UInt8) (h : t.length ≤ 256) (w0 w1 w2 w3 w4 : List UInt8) (hw : wordsA t [] = [w0, w1, w2, w3, w4]) (b0 b1 b2 b3 b4 : Nat) (f0 : FR 0 w0 b0) (f1 : FR 1 w1 b1) (f2 : FR 2 w2 b2) (f3 : FR 3 w3 b3) (f4 : FR 4 w4 b4) :
    cron_Parse 4000000 t=some (⟨b0,b1,b2,b3,b4,w2==[42],w4==[42]⟩,0,0):=by
  unfold cron_Parse
  rw [words_eq t h,hw,decide_eq_false (show ¬ (256:Int)<((t.length:Nat):Int) by omega)]
  have s0:=parse_step [w0,w1,w2,w3,w4] rfl 3999999 0 (by decide) 0 0 0 0 0 w0 rfl b0 0 f0
  have s1:=parse_step [w0,w1,w2,w3,w4] rfl 3999998 1 (by decide) b0 0 0 0 0 w1 rfl b1 0 f1
  have s2:=parse_step [w0,w1,w2,w3,w4] rfl 3999997 2 (by decide) b0 b1 0 0 0 w2 rfl b2 0 f2
  have s3:=parse_step [w0,w1,w2,w3,w4] rfl 3999996 3 (by decide) b0 b1 b2 0 0 w3 rfl b3 0 f3
  have s4:=parse_step [w0,w1,w2,w3,w4] rfl 3999995 4 (by decide) b0 b1 b2 b3 0 w4 rfl b4 0 f4
  have s5:cron_Parse_l0 4000000 [w0,w1,w2,w3,w4] (3999994+1) 5 b0 b1 b2 b3 b4=some (.inr (b0,b1,b2,b3,b4)):=by
    rw [cron_Parse_l0.eq_2];rfl
  have hS:cron_Parse_l0 4000000 [w0,w1,w2,w3,w4] 4000000 0 0 0 0 0 0=some (.inr (b0,b1,b2,b3,b4)):=by
    refine (s0.trans (if_neg (by simp))).trans ?_
    refine (s1.trans (if_neg (by simp))).trans ?_
    refine (s2.trans (if_neg (by simp))).trans ?_
    refine (s3.trans (if_neg (by simp))).trans ?_
    exact (s4.trans (if_neg (by simp))).trans s5
  simp only [cond_false,Option.bind_some,hS]
  rfl
theorem parse_ex (t : List UInt8) : ∃ r, cron_Parse 4000000 t = some r ∧ (r.2.2 ≠ 0 → r.1 = ⟨0, 0, 0, 0, 0, false, false⟩) ∧ (256 < t.length → r.2.2 = 2) ∧
    (r.2.2=0→t.length≤256∧∃ w0 w1 w2 w3 w4:List UInt8,∃ b0 b1 b2 b3 b4:Nat,wordsA t []=[w0,w1,w2,w3,w4]∧FR 0 w0 b0∧FR 1 w1 b1∧FR 2 w2 b2∧FR 3 w3 b3∧FR 4 w4 b4):=by
  by_cases h:t.length≤256
  rotate_left
  · unfold cron_Parse
    rw [decide_eq_true (show (256:Int)<((t.length:Nat):Int) by omega)]
    exact ⟨_,rfl,fun _=>rfl,fun _=>rfl,fun q=>by cases q⟩
  by_cases h5:(wordsA t []).length=5
  rotate_left
  · unfold cron_Parse
    rw [words_eq t h,decide_eq_false (show ¬ (256:Int)<((t.length:Nat):Int) by omega),cond_false,Option.bind_some]
    have:((((wordsA t []).length:Nat):Int) != 5)=true:=by simp;omega
    rw [this]
    exact ⟨_,rfl,fun _=>rfl,fun q=>absurd q (by omega),fun q=>by cases q⟩
  have hlen:=(wordsA_len t []).1
  obtain ⟨w0,w1,w2,w3,w4,hw⟩:∃ w0 w1 w2 w3 w4,wordsA t []=[w0,w1,w2,w3,w4]:=by
    match wordsA t [],h5 with
    | [w0,w1,w2,w3,w4],_=>exact ⟨w0,w1,w2,w3,w4,rfl⟩
  rw [hw] at hlen
  have hl:∀ p,p∈[w0,w1,w2,w3,w4]→p.length≤900:=fun p hp=>by have:=hlen p hp;simp at this;omega
  obtain ⟨b0,e0,f0⟩:=field_ex 0 (by decide) w0 (hl _ (by simp))
  obtain ⟨b1,e1,f1⟩:=field_ex 1 (by decide) w1 (hl _ (by simp))
  obtain ⟨b2,e2,f2⟩:=field_ex 2 (by decide) w2 (hl _ (by simp))
  obtain ⟨b3,e3,f3⟩:=field_ex 3 (by decide) w3 (hl _ (by simp))
  obtain ⟨b4,e4,f4⟩:=field_ex 4 (by decide) w4 (hl _ (by simp))
  have bad : ∀ (i : Nat) (e : Int), e ≠ 0 → cron_Parse_l0 4000000 [w0, w1, w2, w3, w4] 4000000 0 0 0 0 0 0 = some (.inl (⟨0, 0, 0, 0, 0, false, false⟩, (i : Int), e)) →
      ∃ r,cron_Parse 4000000 t=some r∧(r.2.2≠0→r.1=⟨0,0,0,0,0,false,false⟩)∧(256<t.length→r.2.2=2) ∧
        (r.2.2=0→t.length≤256∧∃ w0 w1 w2 w3 w4:List UInt8,∃ b0 b1 b2 b3 b4:Nat,wordsA t []=[w0,w1,w2,w3,w4]∧FR 0 w0 b0∧FR 1 w1 b1∧FR 2 w2 b2∧FR 3 w3 b3∧FR 4 w4 b4):=by
    intro i e he hS
    unfold cron_Parse
    rw [words_eq t h,hw,decide_eq_false (show ¬ (256:Int)<((t.length:Nat):Int) by omega),cond_false,Option.bind_some]
    refine ⟨(⟨0,0,0,0,0,false,false⟩,(i:Int),e),?_,fun _=>rfl,fun q=>absurd q (by omega),fun q=>absurd q he⟩
    simp only [hS]
    rfl
  have s0:=parse_step [w0,w1,w2,w3,w4] rfl 3999999 0 (by decide) 0 0 0 0 0 w0 rfl b0 e0 f0
  have s1:=parse_step [w0,w1,w2,w3,w4] rfl 3999998 1 (by decide) b0 0 0 0 0 w1 rfl b1 e1 f1
  have s2:=parse_step [w0,w1,w2,w3,w4] rfl 3999997 2 (by decide) b0 b1 0 0 0 w2 rfl b2 e2 f2
  have s3:=parse_step [w0,w1,w2,w3,w4] rfl 3999996 3 (by decide) b0 b1 b2 0 0 w3 rfl b3 e3 f3
  have s4:=parse_step [w0,w1,w2,w3,w4] rfl 3999995 4 (by decide) b0 b1 b2 b3 0 w4 rfl b4 e4 f4
  by_cases q0:e0=0
  rotate_left
  · exact bad 0 e0 q0 (s0.trans (if_pos q0))
  by_cases q1:e1=0
  rotate_left
  · exact bad 1 e1 q1 ((s0.trans (if_neg (by simpa using q0))).trans (s1.trans (if_pos q1)))
  by_cases q2:e2=0
  rotate_left
  · exact bad 2 e2 q2 ((s0.trans (if_neg (by simpa using q0))).trans ((s1.trans (if_neg (by simpa using q1))).trans (s2.trans (if_pos q2))))
  by_cases q3:e3=0
  rotate_left
  · exact bad 3 e3 q3 ((s0.trans (if_neg (by simpa using q0))).trans ((s1.trans (if_neg (by simpa using q1))).trans ((s2.trans (if_neg (by simpa using q2))).trans (s3.trans (if_pos q3)))))
  by_cases q4:e4=0
  rotate_left
  · exact bad 4 e4 q4 ((s0.trans (if_neg (by simpa using q0))).trans ((s1.trans (if_neg (by simpa using q1))).trans ((s2.trans (if_neg (by simpa using q2))).trans ((s3.trans (if_neg (by simpa using q3))).trans (s4.trans (if_pos q4))))))
  subst q0;subst q1;subst q2;subst q3;subst q4
  exact ⟨_,parse_mk t h w0 w1 w2 w3 w4 hw b0 b1 b2 b3 b4 f0 f1 f2 f3 f4,fun q=>absurd rfl q,fun q=>absurd q (by omega),fun _=>⟨h,w0,w1,w2,w3,w4,b0,b1,b2,b3,b4,hw,f0,f1,f2,f3,f4⟩⟩
def fullN (n:Nat):Nat:=if n=0 then 1152921504606846975 else if n=1 then 16777215 else if n=2 then 4294967294 else if n=3 then 8190 else 127
theorem fullN_bit (n i:Nat) (hn:n<5) (h0:loF n≤(i:Int)) (h1:(i:Int)≤hiF n) (h4:n=4→i≤6):(fullN n).testBit i=true:=by
  have hall:((List.range 5).all fun n=>(List.range 60).all fun i=>!(decide (loF n≤(i:Int)) && decide ((i:Int)≤hiF n) && (n != 4 || decide (i≤6))) || (fullN n).testBit i)=true:=by decide +kernel
  have h:i<60→(fullN n).testBit i=true:=fun hi=>by
    have:=List.all_eq_true.1 (List.all_eq_true.1 hall n (List.mem_range.2 hn)) i (List.mem_range.2 hi)
    rw [decide_eq_true h0,decide_eq_true h1] at this
    have q:(n != 4 || decide (i≤6))=true:=by
      by_cases h:n=4
      · rw [decide_eq_true (h4 h),Bool.or_true]
      · rw [show (n != 4)=true by simpa using h];rfl
    rw [q] at this
    simpa using this
  refine h ?_
  unfold hiF at h1
  by_cases a:n=0
  · rw [if_pos a] at h1;omega
  rw [if_neg a] at h1
  by_cases b:n=1
  · rw [if_pos b] at h1;omega
  rw [if_neg b] at h1
  by_cases c:n=2
  · rw [if_pos c] at h1;omega
  rw [if_neg c] at h1
  by_cases d:n=3
  · rw [if_pos d] at h1;omega
  rw [if_neg d] at h1;omega
theorem FR.fold {n:Nat} (hn:n<5) {w:List UInt8} (hw:w.length≤900) {b:Nat} (h:FR n w b):∃ s,fieldO n w=some (s,0)∧b=postF n s∧s<2 ^ 64∧s≠0∧∀ i,s.testBit i=true→loF n≤(i:Int)∧(i:Int)≤hiF n:=by
  unfold FR at h
  rw [field_eq n hn w hw] at h
  cases hq:fieldO n w with
  | none=>rw [hq] at h;cases h
  | some s =>
    rw [hq] at h
    obtain ⟨s,e⟩:=s
    simp only [Option.some.injEq,Prod.mk.injEq] at h
    obtain ⟨h1,rfl⟩:=h
    obtain ⟨i1,i2,_,_,i5⟩:=foldO_bits _ (loF n) (hiF n) (fun R hR=>by
      obtain ⟨x,hx,hR⟩:=List.mem_map.1 hR
      have hl:=(splitA_len 44 w []).1 x hx
      have:=(item_step n (loF n) (hiF n) (by unfold loF;split<;>decide) (by unfold hiF;(repeat' split)<;>decide) (fun h=>by unfold loF;rw [if_neg (by omega)]) x (by simp at hl;omega)).1 R hR
      refine ⟨this.1,this.2.1,fun i hi=>?_⟩
      have q:=this.2.2 i hi
      have:max (hiF n) 6=hiF n:=by unfold hiF;(repeat' split)<;>decide
      rw [this] at q;exact q) 0 0 (s,0) (by decide) (fun i h=>by simp at h) hq
    refine ⟨s,rfl,by omega,i1,i5 (by simpa using splitA_ne 44 w []) (by simp),i2⟩
theorem FR.okF {n:Nat} (hn:n<5) {w:List UInt8} (hw:w.length≤900) {b:Nat} (h:FR n w b):b<2 ^ 64∧okF (b:Int) ((fullN n:Nat):Int)=true:=by
  obtain ⟨s,_,rfl,h1,h2,h3⟩:=h.fold hn hw
  have hf:fullN n<2 ^ 64:=by unfold fullN;(repeat' split)<;>decide
  by_cases hp:n=4∧s / 128≠0
  · have e:postF n s=(s &&& 127) ||| 1:=by unfold postF;rw [if_pos hp]
    have hl:(s &&& 127) ||| 1<2 ^ 64:=Nat.or_lt_two_pow (Nat.and_lt_two_pow _ (by decide)) (by decide)
    rw [e]
    refine ⟨hl,(okF_nat _ _ hl hf).2 ⟨fun q=>?_,fun i hi=>?_⟩⟩
    · have:=congrArg (fun n=>n.testBit 0) q
      simp at this
    · have hi7:i<7:=by
        apply Classical.byContradiction
        intro q
        have:((s &&& 127) ||| 1).testBit i=false:=Nat.testBit_lt_two_pow (Nat.lt_of_lt_of_le (Nat.or_lt_two_pow (Nat.and_lt_two_pow s (show 127<2 ^ 7 by decide)) (show 1<2 ^ 7 by decide)) (Nat.pow_le_pow_right (by decide) (by omega)))
        rw [hi] at this;cases this
      refine fullN_bit n i hn ?_ ?_ (fun _=>by omega)
      · rw [hp.1];unfold loF;simp
      · rw [hp.1];unfold hiF;simp;omega
  · have e:postF n s=s:=by unfold postF;rw [if_neg hp]
    rw [e]
    refine ⟨h1,(okF_nat _ _ h1 hf).2 ⟨h2,fun i hi=>?_⟩⟩
    have q:=h3 i hi
    refine fullN_bit n i hn q.1 q.2 (fun h4=>?_)
    have hs:s / 128=0:=by
      apply Classical.byContradiction
      intro q;exact hp ⟨h4,q⟩
    have hs7:s<2 ^ 7:=by omega
    apply Classical.byContradiction
    intro q
    rw [Nat.testBit_lt_two_pow (Nat.lt_of_lt_of_le hs7 (Nat.pow_le_pow_right (by decide) (by omega)))] at hi;cases hi
end Go.T.Cr
set_option linter.unusedVariables false
set_option linter.unusedSimpArgs false
namespace Go.T
open Go Go.Ab Go.T.Cr
theorem runs_ex (i b:Nat) (hi:i<5) (hb:b<2 ^ 64) (h:Cr.okF (b:Int) ((fullN i:Nat):Int)=true):∃ t,cron_runs 4000000 (b:Int)=some t∧t.length≤360:=by
  have hf:fullN i<2 ^ 60:=by unfold fullN;(repeat' split)<;>decide
  have hb60:=okF_lt b (fullN i) hb hf h
  obtain ⟨L,hL,hW⟩:=code_loop b hb60 4000000 0 b [] hb60 (fun i=>by simp) (.inl rfl) (by decide) (by omega) (by simp)
  have h1:=join_len L 5 44 (fun w hw=>(hW.words w hw).2)
  have h2:=(hW.len hb60).1
  have h3:(Lib.join L [44]).length≤360:=by
    have:(5+1) * L.length≤6 * 60:=by omega
    omega
  refine ⟨Lib.join L [44],?_,h3⟩
  unfold cron_runs strings_Join
  rw [hL,List.nil_append,Option.bind_some,decide_eq_true (show (Lib.join L [44]).length≤140737488355328 by omega)];rfl
theorem field_ex' (i b : Nat) (hi : i < 5) (hb : b < 2 ^ 64) (h : Cr.okF (b : Int) ((fullN i : Nat) : Int) = true) (star : Bool) :
    ∃ t,(bif star then some ([42]:List UInt8) else cron_runs 4000000 (b:Int))=some t∧t.length≤360:=by
  cases star with
  | true=>exact ⟨[42],rfl,by simp⟩
  | false=>exact runs_ex i b hi hb h
theorem print_ex (a1 a2 a3 a4 a5 : Nat) (ad aw : Bool) (l1 : a1 < 2 ^ 64) (l2 : a2 < 2 ^ 64) (l3 : a3 < 2 ^ 64) (l4 : a4 < 2 ^ 64) (l5 : a5 < 2 ^ 64) :
    ∃ y,cron_Print 4000000 ⟨a1,a2,a3,a4,a5,ad,aw⟩=some y:=by
  have hk:=check_eq 3999994 ⟨a1,a2,a3,a4,a5,ad,aw⟩
  simp only [show 3999994+6=4000000 from rfl] at hk
  cases h1:chkB ⟨a1,a2,a3,a4,a5,ad,aw⟩ with
  | false =>
    refine ⟨([],1),?_⟩
    unfold cron_Print
    rw [hk,h1];rfl
  | true =>
    have h1':=h1
    simp only [chkB,Bool.and_eq_true] at h1
    obtain ⟨⟨⟨⟨⟨⟨k1,k2⟩,k3⟩,k4⟩,k5⟩,k6⟩,k7⟩:=h1
    obtain ⟨t1,u1,c1⟩:=field_ex' 0 a1 (by decide) l1 k1 ((a1:Int)==1152921504606846975)
    obtain ⟨t2,u2,c2⟩:=field_ex' 1 a2 (by decide) l2 k2 ((a2:Int)==16777215)
    obtain ⟨t3,u3,c3⟩:=field_ex' 2 a3 (by decide) l3 k3 ad
    obtain ⟨t4,u4,c4⟩:=field_ex' 3 a4 (by decide) l4 k4 ((a4:Int)==8190)
    obtain ⟨t5,u5,c5⟩:=field_ex' 4 a5 (by decide) l5 k5 aw
    let A:A_5_uint64:=⟨a1,a2,a3,a4,a5⟩
    let C:api_Cron:=⟨a1,a2,a3,a4,a5,ad,aw⟩
    have r1:=print_step C 3999999 A 0 a1 _ _ [] t1 (by decide) (by decide) (full0 _) rfl rfl u1 (by simp)
    have r2:=print_step C 3999998 A 1 a2 _ _ [t1] t2 (by decide) (by decide) (full1 _) rfl rfl u2 (by simp)
    have r3:=print_step C 3999997 A 2 a3 _ _ [t1,t2] t3 (by decide) (by decide) (full2 _) rfl rfl u3 (by simp)
    have r4:=print_step C 3999996 A 3 a4 _ _ [t1,t2,t3] t4 (by decide) (by decide) (full3 _) rfl rfl u4 (by simp)
    have r5:=print_step C 3999995 A 4 a5 _ _ [t1,t2,t3,t4] t5 (by decide) (by decide) (full4 _) rfl rfl u5 (by simp)
    have r6:cron_Print_l0 4000000 C A (3999994+1) 5 [t1,t2,t3,t4,t5]=some [t1,t2,t3,t4,t5]:=by
      rw [cron_Print_l0.eq_2];rfl
    have hS:cron_Print_l0 4000000 C A 4000000 0 []=some [t1,t2,t3,t4,t5]:=by
      refine r1.trans ?_
      refine r2.trans ?_
      refine r3.trans ?_
      refine r4.trans ?_
      exact r5.trans r6
    have hjl:=join_len [t1,t2,t3,t4,t5] 360 32 (fun w hw=>by
      simp only [List.mem_cons,List.mem_nil_iff,or_false] at hw
      rcases hw with rfl | rfl | rfl | rfl | rfl<;>assumption)
    simp only [List.length_cons,List.length_nil] at hjl
    refine ⟨(Lib.join [t1,t2,t3,t4,t5] [32],0),?_⟩
    unfold cron_Print
    rw [hk,h1',Option.bind_some]
    simp only [Bool.not_true,cond_false,cron_fields,Option.bind_some]
    rw [hS,Option.bind_some]
    unfold strings_Join
    rw [decide_eq_true (show (Lib.join [t1,t2,t3,t4,t5] [32]).length≤140737488355328 by omega)];rfl
theorem parse_print (t:List UInt8):∃ r,cron_Parse 4000000 t=some r∧∃ y,cron_Print 4000000 r.1=some y:=by
  obtain ⟨r,hr,h0,_,h1⟩:=parse_ex t
  refine ⟨r,hr,?_⟩
  by_cases he:r.2.2=0
  · obtain ⟨hl,w0,w1,w2,w3,w4,b0,b1,b2,b3,b4,hw,f0,f1,f2,f3,f4⟩:=h1 he
    have hm:=parse_mk t hl w0 w1 w2 w3 w4 hw b0 b1 b2 b3 b4 f0 f1 f2 f3 f4
    rw [hr] at hm
    obtain rfl:=Option.some.inj hm
    have hlen:=(wordsA_len t []).1
    rw [hw] at hlen
    have len:∀ p,p∈[w0,w1,w2,w3,w4]→p.length≤900:=fun p hp=>by
      have:=hlen p hp
      simp only [List.length_nil] at this
      omega
    have g0:=f0.okF (by decide) (len w0 (by simp))
    have g1:=f1.okF (by decide) (len w1 (by simp))
    have g2:=f2.okF (by decide) (len w2 (by simp))
    have g3:=f3.okF (by decide) (len w3 (by simp))
    have g4:=f4.okF (by decide) (len w4 (by simp))
    exact print_ex b0 b1 b2 b3 b4 _ _ g0.1 g1.1 g2.1 g3.1 g4.1
  · rw [h0 he]
    exact print_ex 0 0 0 0 0 _ _ (by decide) (by decide) (by decide) (by decide) (by decide)
theorem named_ex (F:Nat) (name:List UInt8):∃ y,zone_Named F name=some y:=by
  unfold zone_Named
  simp only [cond_eq_ite]
  repeat' split
  all_goals exact ⟨_,rfl⟩
theorem read_ex' (expr name:List UInt8):∃ r,jobs_read 4000000 expr name=some r∧∃ y,cron_Print 4000000 r.1=some y:=by
  obtain ⟨r,hr,hy⟩:=parse_print expr
  obtain ⟨z,hz⟩:=named_ex 4000000 name
  unfold jobs_read
  rw [hr,Option.bind_some]
  cases he:(r.2.2 != 0) with
  | true =>
    rw [cond_true]
    exact ⟨_,rfl,print_ex 0 0 0 0 0 _ _ (by decide) (by decide) (by decide) (by decide) (by decide)⟩
  | false =>
    rw [cond_false,hz,Option.bind_some]
    cases z with
    | inl z=>exact ⟨_,rfl,hy⟩
    | inr z=>exact ⟨_,rfl,hy⟩
theorem right_ex (j:api_Job) (h:j.Name.length≤1048576):∃ v,jobs_right FM j=some v:=by
  obtain ⟨r,hr,y,hy⟩:=read_ex' j.Expr j.Zone
  unfold jobs_right
  rw [hr,Option.bind_some,jobs_Named_ok h (by decide),hy]
  have hm:∃ m,jobs_marked FM j.Mark=some m:=by
    unfold jobs_marked
    simp only [cond_eq_ite]
    split<;>exact ⟨_,rfl⟩
  obtain ⟨m,hm⟩:=hm
  rw [hm]
  simp only [Option.bind_some,cond_eq_ite]
  repeat' split
  all_goals first | exact ⟨_,rfl⟩ | (simp only [Option.bind_some];repeat' split)
  all_goals exact ⟨_,rfl⟩
end Go.T
set_option linter.unusedVariables false
set_option linter.unusedSimpArgs false
namespace Go.T
open Go Go.Ab
theorem jobs_Check_ex (l:List api_Job) (hl:l.length≤2000000) (h:∀ j,j∈l→j.Name.length≤1048576):∃ v,jobs_Check FM l=some v:=by
  have hL:=(jobs_loop l hl FM 0 (by show _<4000000;omega)).2.2.1 (fun j hj=>right_ex j (h j hj))
  simp only [Int.natCast_zero] at hL
  unfold jobs_Check
  rcases hL with e | e<;>rw [e]<;>exact ⟨_,rfl⟩
def firstS (jobs:List api_Job) (seen:List api_Seen):api_Shard:=⟨1,1,1,[],[],jobs,seen⟩
theorem first_right (jobs : List api_Job) (seen : List api_Seen) (hl : jobs.length ≤ 2000000) (h : ∀ j, j ∈ jobs → j.Name.length ≤ 1048576) (hs : ∃ b, seat_Check FM seen = some b) :
    ∃ v,shard_right FM (firstS jobs seen)=some v∧(v=true→JobsR jobs∧seat_Check FM seen=some true∧∀ j,j∈jobs→nm j.Name=true):=by
  obtain ⟨v,hv⟩:=jobs_Check_ex jobs hl h
  obtain ⟨b,hb⟩:=hs
  have hk:shard_key FM []=some true:=by rw [key_eq _ (by simp)];rfl
  unfold shard_right firstS
  simp only [show decide ((1:Int)<1)=false from rfl,show decide ((1099511627776:Int)<1)=false from rfl,show decide ((4:Int)<1)=false from rfl,cond_false,hk,Option.bind_some,Bool.not_true]
  simp only [Option.bind_some,Bool.not_true,cond_false,beq_self_eq_true,hv,hb]
  cases v with
  | false=>exact ⟨false,rfl,fun e=>by cases e⟩
  | true =>
    cases b with
    | false=>exact ⟨false,rfl,fun e=>by cases e⟩
    | true =>
      simp only [Bool.not_true,cond_false,show ((1:Int)==4)=false from rfl,Option.bind_some]
      have hJ:=jobs_Check_R jobs hl hv
      rcases idxIn_spec jobs (firstS jobs seen) hl (by simp [firstS]) (by simp [firstS]) h with ⟨q,e⟩ | ⟨⟨j,hj,q⟩,e⟩
      · rw [show slices_ContainsFunc___api_Job_api_Job_ FM jobs ⟨1,1,1,[],[],jobs,seen⟩=some false from e]
        refine ⟨true,rfl,fun _=>⟨hJ,by first | trivial | exact hb,fun j hj=>?_⟩⟩
        have:=q j hj
        simp only [Bool.and_eq_true] at this
        have h2:=this.2
        unfold inB at h2
        simp only [Bool.and_eq_true] at h2
        exact h2.1.1
      · rw [show slices_ContainsFunc___api_Job_api_Job_ FM jobs ⟨1,1,1,[],[],jobs,seen⟩=some true from e]
        exact ⟨false,rfl,fun e=>by cases e⟩
theorem start_chk (jobs : List api_Job) (seen : List api_Seen) (hl : jobs.length ≤ 2000000) (h : ∀ j, j ∈ jobs → j.Name.length ≤ 1048576) (hs : ∃ b, seat_Check FM seen = some b) :
    ∃ v,shard_Check FM [firstS jobs seen]=some v∧(v=true→JobsR jobs∧seat_Check FM seen=some true∧∀ j,j∈jobs→nm j.Name=true):=by
  obtain ⟨v,hv,hw⟩:=first_right jobs seen hl h hs
  have hL:=shard_loop [firstS jobs seen] (by simp) FM 0 (by show (1:Nat) - 0<4000000;omega)
  obtain ⟨l1,l2,l3,l4⟩:=hL
  simp only [Int.natCast_zero] at l1 l2 l3 l4
  have:=l3 (fun x hx=>by
    rw [List.mem_singleton] at hx
    subst hx
    exact ⟨v,hv⟩)
  unfold shard_Check
  rcases this with e | e
  · have q:=(l2 e 0 (by simp) (Nat.le_refl _)).1
    simp only [List.getElem_cons_zero] at q
    rw [hv] at q
    obtain rfl:=Option.some.inj q
    rw [e]
    refine ⟨true,?_,fun _=>hw rfl⟩
    simp only [Option.bind_some,Sum.elim_inr]
    rw [decide_eq_true (by simp),cond_true,live_eq _ (by simp),Option.bind_some]
    rfl
  · rw [e]
    exact ⟨false,rfl,fun e=>by cases e⟩
end Go.T
set_option linter.unusedVariables false
set_option linter.unusedSimpArgs false
namespace Go.T
open Go Go.Ab
inductive Drive:api_Atlas→Grs→api_Shard→List (Int×api_Order)→api_Atlas→Grs→api_Shard→Prop
  | nil (A:api_Atlas) (Gs:Grs) (x:api_Shard):Drive A Gs x [] A Gs x
  | cons {A A1 A2:api_Atlas} {Gs Gs1 Gs2:Grs} {x x1 x2:api_Shard} {g:Int} {o:api_Order} {L:List (Int×api_Order)} (h:StepW A Gs x g o A1 Gs1 x1) (t:Drive A1 Gs1 x1 L A2 Gs2 x2):Drive A Gs x ((g,o)::L) A2 Gs2 x2
inductive DriveL:Nat→api_Atlas→Grs→api_Shard→List (Int×api_Order)→api_Atlas→Grs→api_Shard→Prop
  | nil (k:Nat) (A:api_Atlas) (Gs:Grs) (x:api_Shard):DriveL k A Gs x [] A Gs x
  | cons {k:Nat} {A A1 A2:api_Atlas} {Gs Gs1 Gs2:Grs} {x x1 x2:api_Shard} {g:Int} {o:api_Order} {L:List (Int×api_Order)} (h:StepW A Gs x g o A1 Gs1 x1) (t:DriveL (k+1) A1 Gs1 (if k % 3=0 then noS else x1) L A2 Gs2 x2):DriveL k A Gs x ((g,o)::L) A2 Gs2 x2
theorem cut_at {α:Type} (l:List α) (i:Nat) (h:i<l.length):l=l.take i++l[i]::l.drop (i+1):=by
  rw [← List.drop_eq_getElem_cons h,List.take_append_drop]
theorem cut_at2 {α:Type} (l:List α) (i:Nat) (h:i+1<l.length):l=l.take i++l[i]::l[i+1]::l.drop (i+2):=by
  rw [← List.drop_eq_getElem_cons h]
  exact cut_at l i (by omega)
structure Ends (jobs:List api_Job) (seen:List api_Seen) (G last:Int) (Gs:Grs) (A1 A':api_Atlas) (Gs':Grs):Prop where
  run:∃ L x,L.length≤4∧Drive A1 Gs noS L A' Gs' x∧∀ p,p∈L→Done Gs' p.1 p.2
  lost:∃ L x,L.length≤5∧DriveL 0 A1 Gs noS L A' Gs' x
  over:A'.Plan=noP
  grps:A'.Groups=G
  inv:Inv jobs seen G A'.Last A'.Spans Gs'
  last0:last≤A'.Last
  last1:A'.Last≤last+1
  mono:Mono Gs Gs'
  len:Gs'.length=Gs.length
theorem plan_runs {jobs : List api_Job} {seen : List api_Seen} {G last : Int} {l : List api_Span} {Gs : Grs} (hst : Start jobs seen) (hI : Inv jobs seen G last l Gs) (h1 : 1 ≤ last) (hl : last ≤ 62) (q : api_Plan) (hq : q.Key.length ≤ 1048576) :
    (∃ e,e≠0∧atlas_Begin FM ⟨G,last,l,noP⟩ q=some (⟨G,last,l,noP⟩,e)) ∨
    ∃ A1 A' Gs',atlas_Begin FM ⟨G,last,l,noP⟩ q=some (A1,0)∧Ends jobs seen G last Gs A1 A' Gs':=by
  rcases begin_cases ⟨G,last,l,noP⟩ (mp_spans (a:=⟨G,last,l,noP⟩) hI.mp) rfl q hq h1 with h | ⟨i,hi,he,h⟩
  · exact .inl h
  right
  rcases h with ⟨g1,g2,g3,hb⟩ | ⟨k1,k2,k3,hb⟩ | ⟨i1,m1,m2,hb⟩
  · have e:=cut_at l i hi
    simp only at hi he g3 hb
    generalize l[i]=s at e he g3 hb
    generalize l.take i=pre at e
    generalize l.drop (i+1)=post at e
    subst e
    have f:=mid_facts hI.mp
    obtain ⟨Gs1,Gs2,Gs3,Gs4,s1,s2,s3,s4,s5,hI4,hM,hlen,d1,d2,d3,d4⟩:=run_move hst hI (by omega) ⟨g1,g2⟩ g3 he
    have hno:¬ (noS.Id=s.Shard∧noS.Epoch=s.Epoch):=fun e=>by have:(0:Int)=s.Shard:=e.1;omega
    refine ⟨_,⟨G,last,pre++mvSpan s q.Group::post,noP⟩,Gs4,hb,⟨?_,?_,rfl,rfl,hI4,Int.le_refl _,by show last≤last+1;omega,hM,hlen⟩⟩
    · refine ⟨[(s.Group,oF s),(q.Group,oI jobs seen s),(q.Group,oO s),(s.Group,oR s)],noS,by simp,.cons (s1 noS hno) (.cons s3 (.cons (s4 _) (.cons (s5 _) (.nil _ _ _)))),fun p hp=>?_⟩
      simp only [List.mem_cons,List.mem_nil_iff,or_false] at hp
      rcases hp with rfl | rfl | rfl | rfl<;>assumption
    · refine ⟨[(s.Group,oF s),(s.Group,oF s),(q.Group,oI jobs seen s),(q.Group,oO s),(s.Group,oR s)],noS,by simp,.cons (s1 noS hno) ?_⟩
      rw [if_pos (by decide)]
      refine .cons (s2 noS hno) ?_
      rw [if_neg (by decide)]
      refine .cons s3 ?_
      rw [if_neg (by decide)]
      refine .cons (s4 _) ?_
      rw [if_pos (by decide)]
      refine .cons (s5 _) ?_
      rw [if_neg (by decide)]
      exact .nil _ _ _ _
  · have e:=cut_at l i hi
    simp only at hi he k1 k2 hb
    generalize l[i]=s at e he k1 hb
    generalize l.take i=pre at e
    generalize l.drop (i+1)=post at e
    subst e
    obtain ⟨Gs',s1,hI4,hM,hlen,d1⟩:=run_split hst hI hl k1 k2 he
    refine ⟨_,⟨G,last+1,pre++lowSpan s q.Key::upSpan s q.Key (last+1)::post,noP⟩,Gs',hb,⟨⟨[(s.Group,splO s last q.Key)],noS,by simp,.cons (s1 _) (.nil _ _ _),fun p hp=>?_⟩,⟨[(s.Group,splO s last q.Key)],_,by simp,.cons (s1 _) (.nil _ _ _ _)⟩,rfl,rfl,hI4,by show last≤last+1;omega,Int.le_refl _,hM,hlen⟩⟩
    simp only [List.mem_cons,List.mem_nil_iff,or_false] at hp
    subst hp
    exact d1
  · have e:=cut_at2 l i i1
    simp only at i1 he m1 m2 hb
    generalize l[i]=s at e he m1 hb
    generalize l[i+1]=t at e m1 m2 hb
    generalize l.take i=pre at e
    generalize l.drop (i+2)=post at e
    subst e
    obtain ⟨Gs',s1,hI4,hM,hlen,d1⟩:=run_merge hst hI (by omega) m1 he m2
    refine ⟨_,⟨G,last,pre++mergedSpan s t::post,noP⟩,Gs',hb,⟨⟨[(s.Group,mrgO s t)],noS,by simp,.cons (s1 _) (.nil _ _ _),fun p hp=>?_⟩,⟨[(s.Group,mrgO s t)],_,by simp,.cons (s1 _) (.nil _ _ _ _)⟩,rfl,rfl,hI4,Int.le_refl _,by show last≤last+1;omega,hM,hlen⟩⟩
    simp only [List.mem_cons,List.mem_nil_iff,or_false] at hp
    subst hp
    exact d1
end Go.T
set_option linter.unusedVariables false
set_option linter.unusedSimpArgs false
namespace Go.T
open Go Go.Ab
def oneSpan:api_Span:=⟨[],[],1,1,1⟩
theorem one_mp (G:Int) (h1:1≤G) (h2:G≤8):Mp G 1 [oneSpan]:=by
  refine ⟨h1,h2,by decide,by simp,?_,by simp,fun s hs=>?_⟩
  · rw [ch_cons]
    exact ⟨rfl,.inl ⟨rfl,rfl⟩⟩
  · rw [List.mem_singleton] at hs
    subst hs
    exact ⟨by decide,by decide,by decide,by decide,by decide,h1⟩
theorem new_ok (G:Int):(1≤G∧G≤8∧atlas_New FM G=some (⟨G,1,[oneSpan],noP⟩,0))∨(∃ a,atlas_New FM G=some (a,1)):=by
  unfold atlas_New
  by_cases h:1≤G∧G≤8
  · left
    refine ⟨h.1,h.2,?_⟩
    have hc:=check_no (a:=⟨G,1,[oneSpan],noP⟩) (mp_spans (a:=⟨G,1,[oneSpan],noP⟩) (one_mp G h.1 h.2)) rfl
    rw [show (⟨0,0,0,0,0,0,0,[]⟩:api_Plan)=noP from rfl,show (⟨[],[],1,1,1⟩:api_Span)=oneSpan from rfl,hc]
    rfl
  · right
    rcases check_ok (F:=FM) (a:=⟨G,1,[oneSpan],noP⟩) (by simp) (fun s hs=>by rw [List.mem_singleton] at hs;subst hs;simp [oneSpan]) (by decide) with ⟨q,_⟩ | ⟨_,q⟩
    · exfalso
      exact h ⟨by have:=q.1;simp only at this;omega,by have:=q.2.1;simp only at this;omega⟩
    · rw [show (⟨0,0,0,0,0,0,0,[]⟩:api_Plan)=noP from rfl,show (⟨[],[],1,1,1⟩:api_Span)=oneSpan from rfl,q]
      exact ⟨_,rfl⟩
def firstG (n:Nat) (jobs:List api_Job) (seen:List api_Seen):Grs:=(List.replicate n []).set 0 [firstS jobs seen]
theorem cut_all {jobs:List api_Job} (hn:∀ j,j∈jobs→nm j.Name=true):cutJ jobs [] []=jobs:=by
  unfold cutJ
  rw [List.filter_eq_self]
  intro j hj
  unfold inB
  rw [hn j hj,bl_nil];rfl
theorem gr_first (n:Nat) (hn:0<n) (jobs:List api_Job) (seen:List api_Seen) (g:Nat):gr (firstG n jobs seen) g=if g=0 then [firstS jobs seen] else []:=by
  unfold firstG
  rw [gr_set (by simpa using hn)]
  split
  · rfl
  · unfold gr
    rw [List.getD_eq_getElem?_getD]
    by_cases c:g<n
    · simp [c]
    · rw [List.getElem?_eq_none (by simp;omega)];rfl
theorem lk_first (n:Nat) (hn:0<n) (jobs:List api_Job) (seen:List api_Seen) (g:Nat) (id:Int):lk (firstG n jobs seen) g id=if g=0∧id=1 then some (firstS jobs seen) else none:=by
  unfold lk
  rw [gr_first n hn]
  by_cases c:g=0
  · rw [if_pos c,look_cons]
    by_cases c2:id=1
    · rw [if_pos (show (firstS jobs seen).Id=id by subst c2;rfl),if_pos (show g=0∧id=1 from ⟨c,c2⟩)]
    · rw [if_neg (show ¬ (firstS jobs seen).Id=id from fun e=>c2 (by rw [← e];rfl)),if_neg (show ¬ (g=0∧id=1) from fun e=>c2 e.2),look_nil]
  · rw [if_neg c,if_neg (fun e=>c e.1),look_nil]
theorem sum_zero (n:Nat):((List.replicate n ([]:List api_Shard)).map liveN).sum=0:=by
  induction n with
  | zero=>rfl
  | succ n ih=>rw [List.replicate_succ,List.map_cons,List.sum_cons,ih];rfl
theorem first_inv {jobs:List api_Job} {seen:List api_Seen} (hst:Start jobs seen) (G:Int) (h1:1≤G) (h2:G≤8):Inv jobs seen G 1 [oneSpan] (firstG G.toNat jobs seen):=by
  have hn:0<G.toNat:=by omega
  have hS:firstS jobs seen=spanS jobs seen oneSpan:=by
    unfold firstS spanS oneSpan
    rw [cut_all hst.2.2.1]
  have hgood:GoodS (firstS jobs seen):=by
    rw [hS]
    exact good_at hst 1 1 1 [] [] (by decide) (by decide) (by decide) (by decide) (by decide) rfl
  refine ⟨one_mp G h1 h2,by unfold firstG;simp;omega,⟨fun g=>?_,fun g id s hs=>?_⟩,fun s hs=>?_,fun g id x hx=>?_,fun s hs g x hg hx=>?_,?_⟩
  · rw [gr_first _ hn]
    split
    · exact List.pairwise_singleton _ _
    · exact List.Pairwise.nil
  · rw [lk_first _ hn] at hs
    split at hs
    · rename_i c
      obtain rfl:=Option.some.inj hs
      exact ⟨hgood,by omega,by omega⟩
    · cases hs
  · rw [List.mem_singleton] at hs
    subst hs
    rw [lk_first _ hn,if_pos ⟨rfl,rfl⟩,hS]
  · rw [lk_first _ hn] at hx
    split at hx
    · rename_i c
      obtain rfl:=Option.some.inj hx
      exact .inr ⟨oneSpan,List.mem_singleton.2 rfl,c.1.symm,hS⟩
    · cases hx
  · rw [List.mem_singleton] at hs
    subst hs
    rw [lk_first _ hn,if_neg (fun e=>hg e.1)] at hx
    cases hx
  · unfold liveT firstG
    have:=cnt_set liveN (List.replicate G.toNat []) 0 (by simpa using hn) [firstS jobs seen]
    rw [sum_zero] at this
    have e:liveN [firstS jobs seen]=1:=rfl
    have e0:liveN ((List.replicate G.toNat ([]:List api_Shard))[0]'(by simpa using hn))=0:=by simp [liveN]
    show _=1
    omega
end Go.T
set_option linter.unusedVariables false
set_option linter.unusedSimpArgs false
namespace Go.T
open Go Go.Ab
def SrtC (l:List api_Seen):Prop:=l.Pairwise fun a b=>a.Client<b.Client
theorem sfind1_eq (s:api_Seen) (id:Int):seat_find_1 FM s id=some (if s.Client<id then -1 else if id<s.Client then 1 else 0):=by
  unfold seat_find_1
  rw [cmp_int];rfl
theorem sbs_l0 (l : List api_Seen) (id : Int) (hl : l.length ≤ 1000) (hs : SrtC l) : ∀ (d i j m : Nat), j - i ≤ d → i ≤ j → j ≤ l.length → d < m → (∀ k (h : k < l.length), k < i → (l[k]).Client < id) → (∀ k (h : k < l.length), j ≤ k → id ≤ (l[k]).Client) →
    ∃ r:Nat,slices_BinarySearchFunc___api_Seen_api_Seen_int__l0 FM l id m (i:Int) (j:Int)=some (r:Int)∧r≤l.length∧(∀ k (h:k<l.length),k<r→(l[k]).Client<id)∧(∀ k (h:k<l.length),r≤k→id≤(l[k]).Client):=by
  intro d
  have hp:=List.pairwise_iff_getElem.1 hs
  induction d with
  | zero =>
    intro i j m hd hij hj hm h1 h2
    obtain ⟨m,rfl⟩:∃ k,m=k+1:=⟨m - 1,by omega⟩
    refine ⟨i,?_,by omega,h1,fun k h hk=>h2 k h (by omega)⟩
    unfold slices_BinarySearchFunc___api_Seen_api_Seen_int__l0
    rw [decide_eq_false (by omega),cond_false]
  | succ d ih =>
    intro i j m hd hij hj hm h1 h2
    obtain ⟨m,rfl⟩:∃ k,m=k+1:=⟨m - 1,by omega⟩
    by_cases hlt:i<j
    · have hh:(i+j) / 2<l.length:=by omega
      unfold slices_BinarySearchFunc___api_Seen_api_Seen_int__l0
      rw [decide_eq_true (by omega),cond_true]
      simp only [mmid i j (by omega),mg0,cond_true,mc]
      rw [List.getElem?_eq_getElem hh,Option.bind_some,sfind1_eq,Option.bind_some,mwa _ (by omega)]
      by_cases hc:(l[(i+j) / 2]).Client<id
      · rw [if_pos hc,show decide ((-1:Int)<0)=true from rfl,cond_true]
        refine ih ((i+j) / 2+1) j m (by omega) (by omega) hj (by omega) (fun k h hk=>?_) h2
        rcases Nat.lt_or_ge k ((i+j) / 2) with q | q
        · have:=hp k ((i+j) / 2) h hh q
          omega
        · have:k=(i+j) / 2:=by omega
          subst this;exact hc
      · have hd2:decide ((if (l[(i+j) / 2]).Client<id then (-1:Int) else if id<(l[(i+j) / 2]).Client then 1 else 0)<0)=false:=by
          rw [if_neg hc]
          split<;>rfl
        rw [hd2,cond_false]
        refine ih i ((i+j) / 2) m (by omega) (by omega) (by omega) (by omega) h1 (fun k h hk=>?_)
        rcases Nat.lt_or_ge ((i+j) / 2) k with q | q
        · have:=hp ((i+j) / 2) k hh h q
          omega
        · have:k=(i+j) / 2:=by omega
          subst this;omega
    · refine ⟨i,?_,by omega,h1,fun k h hk=>h2 k h (by omega)⟩
      unfold slices_BinarySearchFunc___api_Seen_api_Seen_int__l0
      rw [decide_eq_false (by omega),cond_false]
theorem sfind_spec (l : List api_Seen) (id : Int) (hl : l.length ≤ 1000) (hs : SrtC l) :
    (∃ (i:Nat) (h:i<l.length),(l[i]).Client=id∧seat_find FM l id=some ((i:Int),true)) ∨
    (∃ i:Nat,i≤l.length∧seat_find FM l id=some ((i:Int),false)∧(∀ k (h:k<l.length),k<i→(l[k]).Client<id)∧(∀ k (h:k<l.length),i≤k→id<(l[k]).Client)):=by
  obtain ⟨r,h1,h2,h3,h4⟩:=sbs_l0 l id hl hs l.length 0 l.length FM (by omega) (by omega) (by omega) (by show _<4000000;omega) (fun k _ hk=>by omega) (fun k h hk=>by omega)
  have hp:=List.pairwise_iff_getElem.1 hs
  unfold seat_find slices_BinarySearchFunc___api_Seen_api_Seen_int_
  rw [List.length_map,show slices_BinarySearchFunc___api_Seen_api_Seen_int__l0 FM l id FM 0 (l.length:Int)=_ from h1,Option.bind_some]
  by_cases hr:r<l.length
  · have h5:=h4 r hr (Nat.le_refl _)
    by_cases he:(l[r]).Client=id
    · refine .inl ⟨r,hr,he,?_⟩
      simp only [mg0,cond_true,mc]
      rw [decide_eq_true (by omega),cond_true,List.getElem?_eq_getElem hr,Option.bind_some,sfind1_eq,if_neg (by omega),if_neg (by omega)]
      rfl
    · refine .inr ⟨r,h2,?_,h3,fun k h hk=>?_⟩
      · simp only [mg0,cond_true,mc]
        rw [decide_eq_true (by omega),cond_true,List.getElem?_eq_getElem hr,Option.bind_some,sfind1_eq,if_neg (by omega),if_pos (by omega)]
        rfl
      · rcases Nat.lt_or_ge r k with q | q
        · have:=hp r k hr h q;omega
        · have:k=r:=by omega
          subst this;omega
  · refine .inr ⟨r,h2,?_,h3,fun k h hk=>by omega⟩
    rw [decide_eq_false (by omega),cond_false]
    rfl
theorem scopied_l0 (l:List api_Seen) (hl:l.length≤2000000) (hr:∀ r,r∈l→r.Result.Jobs.length≤2000000):∀ (d i m:Nat),i+d=l.length→d<m→seat_copied_l0 FM l m (i:Int) l=some l:=by
  intro d
  induction d with
  | zero =>
    intro i m h hm
    obtain ⟨m,rfl⟩:∃ k,m=k+1:=⟨m - 1,by omega⟩
    unfold seat_copied_l0
    rw [decide_eq_false (by omega),cond_false]
  | succ d ih =>
    intro i m h hm
    obtain ⟨m,rfl⟩:∃ k,m=k+1:=⟨m - 1,by omega⟩
    have hi:i<l.length:=by omega
    unfold seat_copied_l0
    rw [decide_eq_true (by omega),cond_true]
    simp only [mg0,cond_true,mc,List.getElem?_eq_getElem hi,Option.bind_some,clone_jobs _ (hr _ (List.getElem_mem hi))]
    rw [mwa i (by omega)]
    have:l.set i (api_Seen.mk (l[i]).Client (l[i]).Seq (api_Result.mk (l[i]).Result.Err (l[i]).Result.Time (l[i]).Result.Jobs))=l:=set_same l i hi
    rw [this]
    exact ih (i+1) m (by omega) (by omega)
def seatB (s:api_Seen):Bool:=decide (1≤s.Client) && decide (s.Client≤64) && decide (1≤s.Seq)
theorem seat_right_eq (s:api_Seen):seat_right FM s.Client s.Seq=some (seatB s):=by
  unfold seat_right seatB
  cases decide ((1:Int)≤s.Client)<;>cases decide (s.Client≤(64:Int))<;>rfl
theorem seat_loop (l:List api_Seen) (hl:l.length≤2000000):∀ n (i:Nat),l.length - i<n→AdjRes (fun n i=>seat_Check_l0 FM l n i) l (fun j=>seat_right FM j.Client j.Seq) (fun a b=>decide (a.Client<b.Client)) n i :=
  adjLoop (fun n i=>seat_Check_l0 FM l n i) l (fun j=>seat_right FM j.Client j.Seq) (fun a b=>decide (a.Client<b.Client))
  (fun n i h=>by
    simp only [seat_Check_l0]
    rw [decide_eq_true (by omega),cond_true]
    simp only [mg0,cond_true,mc,List.getElem?_eq_getElem h,Option.bind_some]
    rw [mwi i (by omega)]
    cases seat_right FM (l[i]).Client (l[i]).Seq with
    | none=>rfl
    | some y =>
      cases y with
      | false=>rfl
      | true =>
        simp only [Option.bind_some,Bool.not_true,cond_false]
        by_cases h0:0<i
        · rw [dif_pos h0,decide_eq_true (by omega),cond_true,mwd i h0 (by omega),mg0,cond_true,mc,List.getElem?_eq_getElem (show i - 1<l.length by omega)]
          simp only [Option.bind_some]
          by_cases c:(l[i - 1]'(by omega)).Client<(l[i]).Client
          · rw [decide_eq_true c,decide_eq_false (by omega)];rfl
          · rw [decide_eq_false c,decide_eq_true (by omega)];rfl
        · rw [dif_neg h0,decide_eq_false (by omega)]
          rfl)
  (fun n i h=>by
    simp only [seat_Check_l0]
    rw [decide_eq_false (by omega),cond_false])
theorem seat_Check_ex (l:List api_Seen) (hl:l.length≤2000000):∃ v,seat_Check FM l=some v:=by
  have hL:=(seat_loop l hl FM 0 (by show _<4000000;omega)).2.2.1 (fun j hj=>⟨_,seat_right_eq j⟩)
  simp only [Int.natCast_zero] at hL
  unfold seat_Check
  rcases hL with e | e<;>rw [e]<;>exact ⟨_,rfl⟩
theorem seat_Check_R (l:List api_Seen) (hl:l.length≤2000000) (h:seat_Check FM l=some true):SrtC l∧∀ s,s∈l→seatB s=true:=by
  have hL:=(seat_loop l hl FM 0 (by show _<4000000;omega)).2.1
  simp only [Int.natCast_zero] at hL
  unfold seat_Check at h
  cases hq:seat_Check_l0 FM l FM 0 with
  | none=>rw [hq] at h;cases h
  | some o =>
    rw [hq] at h
    cases o with
    | inl b =>
      simp only [Option.bind_some,Sum.elim_inl,Option.some.injEq] at h
      subst h
      exact absurd hq (seat_loop l hl FM 0 (by show _<4000000;omega)).2.2.2
    | inr u =>
      have:=hL hq
      refine ⟨?_,fun s hs=>?_⟩
      · have hp:=adj_pairwise (fun a b:api_Seen=>decide (a.Client<b.Client)) (fun x y z a b=>by
          simp only [decide_eq_true_eq] at *
          omega) l fun k hk h0=>(this k hk (Nat.zero_le _)).2 h0
        exact hp.imp fun h=>by simpa using h
      · obtain ⟨k,hk,rfl⟩:=List.getElem_of_mem hs
        have h1:=(this k hk (Nat.zero_le _)).1
        rw [seat_right_eq] at h1
        exact Option.some.inj h1
theorem srtC_cons {x:api_Seen} {l:List api_Seen}:SrtC (x::l)↔(∀ y,y∈l→x.Client<y.Client)∧SrtC l:=List.pairwise_cons
theorem incr_lenC:∀ (l:List api_Seen) (a:Nat) (n:Nat),SrtC l→(∀ s,s∈l→(a:Int)<s.Client∧s.Client≤n)→l.length+a≤n∨l=[]:=by
  intro l
  induction l with
  | nil=>intro a n _ _;exact .inr rfl
  | cons x l ih =>
    intro a n hs h
    left
    rw [srtC_cons] at hs
    have hx:=h x List.mem_cons_self
    rcases ih x.Client.toNat n hs.2 (fun s hm=>by have:=hs.1 s hm;have:=h s (List.mem_cons_of_mem _ hm);omega) with q | q
    · simp only [List.length_cons];omega
    · subst q;simp only [List.length_cons,List.length_nil];omega
theorem seat_few {l:List api_Seen} (hs:SrtC l) (h:∀ s,s∈l→seatB s=true):l.length≤64:=by
  rcases incr_lenC l 0 64 hs (fun s hm=>by
    have:=h s hm
    unfold seatB at this
    simp only [Bool.and_eq_true,decide_eq_true_eq] at this
    omega) with q | q
  · omega
  · rw [q];simp
theorem put_stale {l:List api_Seen} (hc:seat_Check FM l=some true) (hs:SrtC l) (hr:∀ s,s∈l→seatB s=true) (i:Nat) (hi:i<l.length):seat_Put FM l (l[i])=some ([],160):=by
  have hlen:=seat_few hs hr
  unfold seat_Put
  rw [hc,Option.bind_some,seat_right_eq,hr _ (List.getElem_mem hi)]
  simp only [Option.bind_some,Bool.not_true,cond_false]
  have hp:=List.pairwise_iff_getElem.1 hs
  rcases sfind_spec l (l[i]).Client (by omega) hs with ⟨k,hk,h1,h2⟩ | ⟨k,hk,h2,h3,h4⟩
  · have:k=i:=by
      rcases Nat.lt_trichotomy k i with q | q | q
      · have:=hp k i hk hi q;omega
      · exact q
      · have:=hp i k hi hk q;omega
    subst this
    rw [h2]
    simp only [Option.bind_some,cond_true,mg0,mc,List.getElem?_eq_getElem hk,decide_eq_true (Int.le_refl _)]
  · exfalso
    rcases Nat.lt_or_ge i k with q | q
    · have:=h3 i hi q;omega
    · have:=h4 i hi q;omega
theorem join_l0 {l:List api_Seen} (hc:seat_Check FM l=some true) (hs:SrtC l) (hr:∀ s,s∈l→seatB s=true):∀ (d i m:Nat),i+d=l.length→d<m→seat_Join_l0 FM l m l (i:Int)=some l:=by
  have hlen:=seat_few hs hr
  intro d
  induction d with
  | zero =>
    intro i m h hm
    obtain ⟨m,rfl⟩:∃ k,m=k+1:=⟨m - 1,by omega⟩
    unfold seat_Join_l0
    rw [decide_eq_false (by omega),cond_false]
  | succ d ih =>
    intro i m h hm
    obtain ⟨m,rfl⟩:∃ k,m=k+1:=⟨m - 1,by omega⟩
    have hi:i<l.length:=by omega
    unfold seat_Join_l0
    rw [decide_eq_true (by omega),cond_true]
    simp only [mg0,cond_true,mc,List.getElem?_eq_getElem hi,Option.bind_some,put_stale hc hs hr i hi]
    rw [mwi i (by omega)]
    exact ih (i+1) m (by omega) (by omega)
theorem Join_same {l:List api_Seen} (hl:l.length≤2000000) (hc:seat_Check FM l=some true) (hj:∀ r,r∈l→r.Result.Jobs.length≤2000000):seat_Join FM l l=some (l,0):=by
  obtain ⟨hs,hr⟩:=seat_Check_R l hl hc
  have hlen:=seat_few hs hr
  unfold seat_Join
  rw [hc]
  simp only [Option.bind_some,Bool.not_true,cond_false]
  have h1:seat_copied FM l=some l:=by
    unfold seat_copied
    rw [clone_seen l hl,Option.bind_some,show seat_copied_l0 FM l FM 0 l=some l from scopied_l0 l hl hj l.length 0 FM (by omega) (by show _<4000000;omega)]
    rfl
  rw [h1,Option.bind_some,show seat_Join_l0 FM l FM l 0=some l from join_l0 hc hs hr l.length 0 FM (by omega) (by show _<4000000;omega)]
  rfl
theorem start_any {jobs:List api_Job} {seen:List api_Seen} (hJ:JobsR jobs) (hn:∀ j,j∈jobs→nm j.Name=true) (h16:jobs.length≤16) (hl:seen.length≤2000000) (hc:seat_Check FM seen=some true) (hj:∀ r,r∈seen→r.Result.Jobs.length≤2000000):Start jobs seen :=
  ⟨hJ,h16,hn,hc,hl,hj,Join_same hl hc hj⟩
end Go.T
set_option linter.unusedVariables false
set_option linter.unusedSimpArgs false
namespace Go.T
open Go Go.Ab
theorem cat_cuts {jobs:List api_Job} (hj:jobs.Pairwise fun a b=>Op.bytesLess a.Name b.Name=true):∀ (l:List api_Span) (fr:List UInt8),Ch fr l→(l.map fun s=>cutJ jobs s.From s.To).flatten=cutJ jobs fr []:=by
  intro l
  induction l with
  | nil=>intro fr h;exact absurd h (by unfold Ch;simp)
  | cons s l ih =>
    intro fr h
    rw [ch_cons] at h
    obtain ⟨h1,h2⟩:=h
    rw [List.map_cons,List.flatten_cons]
    rcases h2 with ⟨rfl,h3⟩ | ⟨h3,h4,h5⟩
    · rw [h1,h3];simp
    · rw [ih s.To h5,h1]
      rw [h1] at h4
      exact cut_cat hj h4 (.inl rfl)
theorem all_jobs {jobs:List api_Job} {seen:List api_Seen} {G last:Int} {l:List api_Span} (hst:Start jobs seen) (h:Mp G last l):(l.map fun s=>cutJ jobs s.From s.To).flatten=jobs:=by
  rw [cat_cuts hst.1.2.1 l [] h.2.2.2.2.1,cut_all hst.2.2.1]
theorem mp_last {G last:Int} {l:List api_Span} (h:Mp G last l):1≤last:=by
  obtain ⟨c1,_⟩:=ch_at _ _ h.2.2.2.2.1
  obtain ⟨b1,b2,_⟩:=h.2.2.2.2.2.2 _ (List.getElem_mem (show 0<l.length by omega))
  omega
theorem atlas_eta (A:api_Atlas) {G:Int} (h1:A.Plan=noP) (h2:A.Groups=G):A=⟨G,A.Last,A.Spans,noP⟩:=by
  obtain ⟨a,b,c,d⟩:=A
  simp only at h1 h2
  rw [h1,h2]
end Go.T
set_option linter.unusedVariables false
set_option linter.unusedSimpArgs false
namespace Go.T
open Go Go.Ab
theorem Jobs_refl {l:List api_Job} (h:l.length≤1048576):matinsref16_Jobs FM l l=some true:=by
  unfold matinsref16_Jobs
  have hl:=allLoop (fun n i=>matinsref16_Jobs_l0 FM l l n i) l.length (fun _=>true) false
    (fun n i hi=>by
      simp only [matinsref16_Jobs_l0]
      have f1:decide ((i:Int)<((l.length:Nat):Int))=true:=decide_eq_true (by omega)
      have f2:decide ((0:Int)≤(i:Int))=true:=decide_eq_true (by omega)
      have f4:IntKind.wrap IntKind.i64 ((i:Int)+1)=(i:Int)+1:=by rw [wrap_id (by omega) (by omega)]
      simp only [f1,f2,f4,cond_true,Int.toNat_natCast,List.getElem?_eq_getElem hi,Option.bind_some,beq_self_eq_true,Bool.and_self,Bool.not_true,cond_false])
    (fun n i hi=>by
      simp only [matinsref16_Jobs_l0]
      have f1:decide ((i:Int)<((l.length:Nat):Int))=false:=decide_eq_false (by omega)
      simp only [f1,cond_false]) FM 0 (by show _<4000000;omega)
  have e:((((List.length l):Nat):Int) != (((List.length l):Nat):Int))=false:=by simp
  rw [e]
  simp only [Int.natCast_zero] at hl
  rcases hl with ⟨_,hl⟩ | ⟨⟨j,_,_,hg⟩,_⟩
  · rw [cond_false,hl];rfl
  · cases hg
theorem Result_refl {r:api_Result} (h:r.Jobs.length≤1048576):matinsref16_Result FM r r=some true:=by
  unfold matinsref16_Result
  rw [Jobs_refl h]
  simp
theorem Books_refl {l:List api_Seen} (h:l.length≤1048576) (hj:∀ y,y∈l→y.Result.Jobs.length≤1048576):matinsref17_Books FM l l=some true:=by
  unfold matinsref17_Books
  have hl:=allLoop (fun n i=>matinsref17_Books_l0 FM l l n i) l.length (fun _=>true) false
    (fun n i hi=>by
      simp only [matinsref17_Books_l0]
      have f1:decide ((i:Int)<((l.length:Nat):Int))=true:=decide_eq_true (by omega)
      have f2:decide ((0:Int)≤(i:Int))=true:=decide_eq_true (by omega)
      have f4:IntKind.wrap IntKind.i64 ((i:Int)+1)=(i:Int)+1:=by rw [wrap_id (by omega) (by omega)]
      simp only [f1,f2,f4,cond_true,Int.toNat_natCast,List.getElem?_eq_getElem hi,Option.bind_some,bne_self_eq_false,Result_refl (hj _ (List.getElem_mem hi)),Bool.not_true,cond_false])
    (fun n i hi=>by
      simp only [matinsref17_Books_l0]
      have f1:decide ((i:Int)<((l.length:Nat):Int))=false:=decide_eq_false (by omega)
      simp only [f1,cond_false]) FM 0 (by show _<4000000;omega)
  have e:((((List.length l):Nat):Int) != (((List.length l):Nat):Int))=false:=by simp
  rw [e]
  simp only [Int.natCast_zero] at hl
  rcases hl with ⟨_,hl⟩ | ⟨⟨j,_,_,hg⟩,_⟩
  · rw [cond_false,hl];rfl
  · cases hg
theorem find_ok {l : List api_Shard} (hl : l.length ≤ 1000) (hs : SrtId l) {id : Int} {x : api_Shard} (h : look l id = some x) (h4 : x.State ≠ 4) :
    ∃ (k:Nat) (hk:k<l.length),matinsref18_Find FM l id=some (k:Int)∧l[k]=x:=by
  have hL:=findLoop (fun n i=>matinsref18_Known_l0 FM l id n i) l.length (fun i=>match l[i]? with | some j=>j.Id==id | none=>false)
    (fun n i hi=>by
      simp only [matinsref18_Known_l0]
      rw [decide_eq_true (by omega),cond_true]
      simp only [mg0,cond_true,mc,List.getElem?_eq_getElem hi,Option.bind_some,mwi i (by omega)])
    (fun n i hi=>by
      simp only [matinsref18_Known_l0]
      rw [decide_eq_false (by omega),cond_false]) FM 0 (by show _<4000000;omega)
  simp only [Int.natCast_zero] at hL
  obtain ⟨q,hq,hq2,hq3⟩:=look_get h
  rcases hL with ⟨j,_,hj,hh,_,e⟩ | ⟨hh,e⟩
  · rw [List.getElem?_eq_getElem hj] at hh
    have hx:l[j]=x:=look_uniq hs h hj (by simpa using hh)
    refine ⟨j,hj,?_,hx⟩
    unfold matinsref18_Find matinsref18_Known
    rw [e]
    simp only [Option.bind_some,Sum.elim_inl,mg0,cond_true,mc,List.getElem?_eq_getElem hj,hx]
    rw [show (x.State==4)=false by simpa using h4]
    rfl
  · exfalso
    have:=hh q (Nat.zero_le _) hq
    rw [List.getElem?_eq_getElem hq] at this
    simp only [beq_eq_false_iff_ne] at this
    exact this hq3
theorem ref_right (s:api_Seen):matinsref17_Right FM s.Client s.Seq=some (seatB s):=by
  unfold matinsref17_Right seatB
  cases decide ((1:Int)≤s.Client)<;>cases decide (s.Client≤(64:Int))<;>rfl
theorem ref_check_l0 {l:List api_Seen} (hs:SrtC l) (hr:∀ s,s∈l→seatB s=true) (hl:l.length≤64):∀ (d i m:Nat) (last:Int),i+d=l.length→d<m→(∀ h:i<l.length,last<(l[i]).Client)→matinsref17_Check_l0 FM l m last (i:Int)=some (.inr ()):=by
  intro d
  induction d with
  | zero =>
    intro i m last h hm _
    obtain ⟨m,rfl⟩:∃ k,m=k+1:=⟨m - 1,by omega⟩
    unfold matinsref17_Check_l0
    rw [decide_eq_false (by omega),cond_false]
  | succ d ih =>
    intro i m last h hm hlast
    obtain ⟨m,rfl⟩:∃ k,m=k+1:=⟨m - 1,by omega⟩
    have hi:i<l.length:=by omega
    unfold matinsref17_Check_l0
    rw [decide_eq_true (by omega),cond_true]
    have hlt:=hlast hi
    simp only [mg0,cond_true,mc,List.getElem?_eq_getElem hi,Option.bind_some,ref_right,hr _ (List.getElem_mem hi),Bool.not_true,cond_false]
    rw [decide_eq_false (by omega),cond_false,mwi i (by omega)]
    exact ih (i+1) m _ (by omega) (by omega) fun h=>List.pairwise_iff_getElem.1 hs i (i+1) hi h (by omega)
theorem ref_check {l:List api_Seen} (hs:SrtC l) (hr:∀ s,s∈l→seatB s=true):matinsref17_Check FM l=some true:=by
  have hl:=seat_few hs hr
  unfold matinsref17_Check
  rw [show matinsref17_Check_l0 FM l FM 0 0=_ from ref_check_l0 hs hr hl l.length 0 FM 0 (by omega) (by show _<4000000;omega) (fun h=>by
    have:=hr _ (List.getElem_mem h)
    unfold seatB at this
    simp only [Bool.and_eq_true,decide_eq_true_eq] at this
    omega)]
  rfl
theorem merge_nil {b:List api_Seen} (hl:b.length≤64):∀ (d k m:Nat),k+d=b.length→d<m→matinsref17_merge_l0 FM [] b m 0 (k:Int) (b.take k)=some b:=by
  intro d
  induction d with
  | zero =>
    intro k m h hm
    obtain ⟨m,rfl⟩:∃ k,m=k+1:=⟨m - 1,by omega⟩
    unfold matinsref17_merge_l0
    simp only [List.length_nil,List.length_map,Int.natCast_zero,show decide ((0:Int)<0)=false from rfl,cond_false,Option.bind_some]
    rw [decide_eq_false (by omega),cond_false,List.take_of_length_le (by omega)]
  | succ d ih =>
    intro k m h hm
    obtain ⟨m,rfl⟩:∃ k,m=k+1:=⟨m - 1,by omega⟩
    have hk:k<b.length:=by omega
    unfold matinsref17_merge_l0
    simp only [List.length_nil,List.length_map,Int.natCast_zero,show decide ((0:Int)<0)=false from rfl,cond_false,Option.bind_some]
    rw [decide_eq_true (by omega),cond_true,show (((k:Nat):Int)==((b.length:Nat):Int))=false by rw [beq_eq_false_iff_ne];omega]
    simp only [cond_false,Option.bind_some,beq_self_eq_true,cond_true,mg0,mc,List.getElem?_eq_getElem hk]
    rw [decide_eq_true (by rw [List.length_take];simp only [LIM];omega),cond_true,mwi k (by omega),← List.take_succ_eq_append_getElem hk]
    exact ih (k+1) m (by omega) (by omega)
theorem merge_same {a:List api_Seen} (hl:a.length≤64):∀ (d k m:Nat),k+d=a.length→d<m→matinsref17_merge_l0 FM a a m (k:Int) (k:Int) (a.take k)=some a:=by
  intro d
  induction d with
  | zero =>
    intro k m h hm
    obtain ⟨m,rfl⟩:∃ k,m=k+1:=⟨m - 1,by omega⟩
    unfold matinsref17_merge_l0
    simp only [List.length_map]
    rw [decide_eq_false (by omega)]
    simp only [cond_false,Option.bind_some]
    rw [List.take_of_length_le (by omega)]
  | succ d ih =>
    intro k m h hm
    obtain ⟨m,rfl⟩:∃ k,m=k+1:=⟨m - 1,by omega⟩
    have hk:k<a.length:=by omega
    unfold matinsref17_merge_l0
    simp only [List.length_map]
    rw [decide_eq_true (show (k:Int)<(a.length:Int) by omega),show (((k:Nat):Int)==((a.length:Nat):Int))=false by rw [beq_eq_false_iff_ne];omega]
    simp only [cond_true,cond_false,Option.bind_some,mg0,mc,List.getElem?_eq_getElem hk]
    rw [decide_eq_false (Int.lt_irrefl _)]
    simp only [cond_false,Option.bind_some]
    rw [decide_eq_false (Int.lt_irrefl _)]
    simp only [cond_false,Option.bind_some]
    rw [decide_eq_true (by rw [List.length_take];simp only [LIM];omega)]
    simp only [cond_true,Option.bind_some]
    rw [mwi k (by omega),← List.take_succ_eq_append_getElem hk]
    exact ih (k+1) m (by omega) (by omega)
theorem refJoin_nil {b:List api_Seen} (hs:SrtC b) (hr:∀ s,s∈b→seatB s=true):matinsref17_Join_i1 FM [] b=some (0,b):=by
  have hl:=seat_few hs hr
  unfold matinsref17_Join_i1
  rw [ref_check (l:=[]) List.Pairwise.nil (fun s h=>by simp at h),ref_check hs hr]
  simp only [Option.bind_some,Bool.not_true,cond_false]
  unfold matinsref17_merge
  rw [show matinsref17_merge_l0 FM [] b FM 0 0 []=some b from merge_nil hl b.length 0 FM (by omega) (by show _<4000000;omega)]
  rfl
theorem refJoin_same {b:List api_Seen} (hs:SrtC b) (hr:∀ s,s∈b→seatB s=true):matinsref17_Join_i1 FM b b=some (0,b):=by
  have hl:=seat_few hs hr
  unfold matinsref17_Join_i1
  rw [ref_check hs hr]
  simp only [Option.bind_some,Bool.not_true,cond_false]
  unfold matinsref17_merge
  rw [show matinsref17_merge_l0 FM b b FM 0 0 []=some b from merge_same hl b.length 0 FM (by omega) (by show _<4000000;omega)]
  rfl
end Go.T
set_option linter.unusedVariables false
set_option linter.unusedSimpArgs false
namespace Go.T
open Go Go.Ab
theorem wgi {g:Int} (h1:1≤g) (h2:g≤1000000):IntKind.wrap IntKind.i64 (g - 1)=((gi g:Nat):Int):=by
  rw [wrap_id (by omega) (by omega)]
  unfold gi
  omega
section
variable {jobs:List api_Job} {seen:List api_Seen} {G last:Int} {l:List api_Span} {Gs:Grs}
theorem gr_get {k:Nat} (h:k<Gs.length):Gs[k]? = some (gr Gs k):=by
  rw [List.getElem?_eq_getElem h,gr_at h]
theorem span_at (hI : Inv jobs seen G last l Gs) (hl : last ≤ 63) (i : Nat) (hi : i < l.length) :
    IntKind.wrap IntKind.i64 ((l[i]).Group - 1)=((gi (l[i]).Group:Nat):Int)∧Gs[gi (l[i]).Group]? = some (gr Gs (gi (l[i]).Group)) ∧
    ∃ (k:Nat) (hk:k<(gr Gs (gi (l[i]).Group)).length),matinsref18_Find FM (gr Gs (gi (l[i]).Group)) (l[i]).Shard=some (k:Int)∧(gr Gs (gi (l[i]).Group))[k]=spanS jobs seen (l[i]):=by
  have hm:=List.getElem_mem hi
  have f:=hI.mp.2.2.2.2.2.2 _ hm
  have hG:=hI.mp.2.1
  have g:=hI.good' (by omega) hl (gi (l[i]).Group)
  exact ⟨wgi f.2.2.2.2.1 (by omega),gr_get (lk_in (hI.home _ hm)),find_ok (by omega) g.1.1 (hI.home _ hm) (by show (1:Int)≠4;decide)⟩
theorem fits_l0 (hI:Inv jobs seen G last l Gs) (hl:last≤63):∀ (d i m:Nat),i+d=l.length→d<m→__matinslaw20_World__fits_i1_l0 FM l Gs m (i:Int)=some (.inr ()):=by
  intro d
  induction d with
  | zero =>
    intro i m h hm
    obtain ⟨m,rfl⟩:∃ k,m=k+1:=⟨m - 1,by omega⟩
    unfold __matinslaw20_World__fits_i1_l0
    rw [decide_eq_false (by omega),cond_false]
  | succ d ih =>
    intro i m h hm
    obtain ⟨m,rfl⟩:∃ k,m=k+1:=⟨m - 1,by omega⟩
    have hi:i<l.length:=by omega
    have h16:=hI.mp.2.2.2.1
    obtain ⟨e1,e2,k,hk,e3,e4⟩:=span_at hI hl i hi
    unfold __matinslaw20_World__fits_i1_l0
    rw [decide_eq_true (by omega),cond_true]
    simp only [mg0,cond_true,mc,List.getElem?_eq_getElem hi,Option.bind_some,e1,e2,e3]
    rw [decide_eq_false (by omega),cond_false]
    simp only [List.getElem?_eq_getElem hk,Option.bind_some,e4,spanS,bne_self_eq_false,cond_false,beq_self_eq_true,Bool.not_true]
    rw [mwi i (by omega)]
    exact ih (i+1) m (by omega) (by omega)
def srv (l:List api_Shard):Nat:=l.countP fun s=>s.State==1
theorem fits_l2 {g:Nat} (hg:g<Gs.length) (h64:(gr Gs g).length≤64):∀ (d k m n:Nat),k+d=(gr Gs g).length→d<m→n+d≤1000000→__matinslaw20_World__fits_i1_l2 FM Gs (g:Int) m (n:Int) (k:Int)=some ((n+srv ((gr Gs g).drop k):Nat):Int):=by
  intro d
  induction d with
  | zero =>
    intro k m n h hm hn
    obtain ⟨m,rfl⟩:∃ k,m=k+1:=⟨m - 1,by omega⟩
    unfold __matinslaw20_World__fits_i1_l2
    simp only [mg0,cond_true,mc,gr_get hg,Option.bind_some]
    rw [decide_eq_false (by omega),cond_false,List.drop_of_length_le (by omega)]
    rfl
  | succ d ih =>
    intro k m n h hm hn
    obtain ⟨m,rfl⟩:∃ k,m=k+1:=⟨m - 1,by omega⟩
    have hk:k<(gr Gs g).length:=by omega
    unfold __matinslaw20_World__fits_i1_l2
    simp only [mg0,cond_true,mc,gr_get hg,Option.bind_some]
    rw [decide_eq_true (by omega),cond_true]
    simp only [List.getElem?_eq_getElem hk,Option.bind_some]
    rw [mwi k (by omega),List.drop_eq_getElem_cons hk]
    have e:srv ((gr Gs g)[k]::(gr Gs g).drop (k+1))=srv ((gr Gs g).drop (k+1))+if ((gr Gs g)[k]).State==1 then 1 else 0:=by
      unfold srv
      rw [List.countP_cons]
    rw [e]
    cases hc:(((gr Gs g)[k]).State==1) with
    | true =>
      simp only [cond_true,Option.bind_some,if_true]
      rw [mwi n (by omega)]
      have:=ih (k+1) m (n+1) (by omega) (by omega) (by omega)
      rw [show ((n+1:Nat):Int)=(n:Int)+1 by omega,show ((k+1:Nat):Int)=(k:Int)+1 by omega] at this
      rw [this,show n+1+srv ((gr Gs g).drop (k+1))=n+(srv ((gr Gs g).drop (k+1))+1) by omega]
    | false =>
      simp only [cond_false,Option.bind_some]
      have:=ih (k+1) m n (by omega) (by omega) (by omega)
      rw [show ((k+1:Nat):Int)=(k:Int)+1 by omega] at this
      rw [this]
      simp
theorem srv_le (l:List api_Shard):srv l≤l.length:=List.countP_le_length
theorem fits_l1 (h64:∀ k,(gr Gs k).length≤64) (h8:Gs.length≤8):∀ (d g m n:Nat),g+d=Gs.length→d<m→n+64 * d≤1000000 - 64→__matinslaw20_World__fits_i1_l1 FM Gs m (n:Int) (g:Int)=some ((n+((Gs.drop g).map srv).sum:Nat):Int):=by
  intro d
  induction d with
  | zero =>
    intro g m n h hm hn
    obtain ⟨m,rfl⟩:∃ k,m=k+1:=⟨m - 1,by omega⟩
    unfold __matinslaw20_World__fits_i1_l1
    rw [decide_eq_false (by omega),cond_false,List.drop_of_length_le (by omega)]
    simp
  | succ d ih =>
    intro g m n h hm hn
    obtain ⟨m,rfl⟩:∃ k,m=k+1:=⟨m - 1,by omega⟩
    have hg:g<Gs.length:=by omega
    have q:=h64 g
    unfold __matinslaw20_World__fits_i1_l1
    rw [decide_eq_true (by omega),cond_true,show __matinslaw20_World__fits_i1_l2 FM Gs (g:Int) FM (n:Int) 0=_ from fits_l2 hg q (gr Gs g).length 0 FM n (by omega) (by show _<4000000;omega) (by omega)]
    simp only [Option.bind_some,List.drop_zero]
    rw [mwi g (by omega),List.drop_eq_getElem_cons hg,List.map_cons,List.sum_cons,← gr_at hg]
    have hs:=srv_le (gr Gs g)
    have:=ih (g+1) m (n+srv (gr Gs g)) (by omega) (by omega) (by omega)
    rw [show ((g+1:Nat):Int)=(g:Int)+1 by omega] at this
    rw [this,Nat.add_assoc]
theorem srv_live (hI:Inv jobs seen G last l Gs):(Gs.map srv).sum=l.length:=by
  rw [← hI.count]
  unfold liveT
  congr 1
  apply List.map_congr_left
  intro k hk
  obtain ⟨g,hg,rfl⟩:=List.getElem_of_mem hk
  unfold srv liveN
  apply List.countP_congr
  intro s hs
  have h1:s∈gr Gs g:=by rw [gr_at hg];exact hs
  have hlk:lk Gs g s.Id=some s:=mem_look (hI.base.1 g) h1
  rcases hI.rest _ _ _ hlk with q | ⟨a,_,_,e⟩
  · simp [q]
  · rw [e];simp [spanS]
theorem fits_ok (hI:Inv jobs seen G last l Gs) (hl:last≤63) (c0 c1 c3 c4 c5 c6 c7 c8 c9:Int) (c10:List UInt8):__matinslaw20_World__fits_i1 FM c0 c1 l c3 c4 c5 c6 c7 c8 c9 c10 Gs=some true:=by
  have h16:=hI.mp.2.2.2.1
  have hG:=hI.mp.2.1
  have hlen:=hI.len
  have h1:=mp_last hI.mp
  have h64:∀ k,(gr Gs k).length≤64:=fun k=>by have:=(hI.good' (by omega) hl k).2;omega
  unfold __matinslaw20_World__fits_i1
  rw [show __matinslaw20_World__fits_i1_l0 FM l Gs FM 0=_ from fits_l0 hI hl l.length 0 FM (by omega) (by show _<4000000;omega)]
  simp only [Option.bind_some,Sum.elim_inr,List.length_map]
  rw [show __matinslaw20_World__fits_i1_l1 FM Gs FM 0 0=_ from fits_l1 h64 (by omega) Gs.length 0 FM 0 (by omega) (by show _<4000000;omega) (by omega)]
  simp only [Option.bind_some,List.drop_zero,Nat.zero_add,srv_live hI,beq_self_eq_true]
def accS (seen:List api_Seen) (i:Nat):List api_Seen:=if i=0 then [] else seen
theorem all_l0 (hst : Start jobs seen) (hI : Inv jobs seen G last l Gs) (hl : last ≤ 63) : ∀ (d i m : Nat), i + d = l.length → d < m →
    __matinslaw20_World__all_i1_l0 FM l Gs m (i:Int) (((l.take i).map fun s=>cutJ jobs s.From s.To).flatten) (accS seen i)=some (((l.map fun s=>cutJ jobs s.From s.To).flatten),accS seen l.length):=by
  obtain ⟨sc,sr⟩:=seat_Check_R seen hst.2.2.2.2.1 hst.2.2.2.1
  intro d
  induction d with
  | zero =>
    intro i m h hm
    obtain ⟨m,rfl⟩:∃ k,m=k+1:=⟨m - 1,by omega⟩
    unfold __matinslaw20_World__all_i1_l0
    rw [decide_eq_false (by omega),cond_false,List.take_of_length_le (by omega),show i=l.length by omega]
  | succ d ih =>
    intro i m h hm
    obtain ⟨m,rfl⟩:∃ k,m=k+1:=⟨m - 1,by omega⟩
    have hi:i<l.length:=by omega
    have h16:=hI.mp.2.2.2.1
    obtain ⟨e1,e2,k,hk,e3,e4⟩:=span_at hI hl i hi
    have hjl:∀ a b,(cutJ jobs a b).length≤16:=fun a b=>by
      have:=List.length_filter_le (fun j:api_Job=>inB a b j.Name) jobs
      have:=hst.2.1
      unfold cutJ;omega
    have hacc:((l.take i).map fun s=>cutJ jobs s.From s.To).flatten.length≤16 * (l.take i).length:=by
      generalize l.take i=q
      induction q with
      | nil=>simp
      | cons a q ihq =>
        rw [List.map_cons,List.flatten_cons,List.length_append,List.length_cons]
        have:=hjl a.From a.To
        omega
    rw [List.length_take] at hacc
    unfold __matinslaw20_World__all_i1_l0
    rw [decide_eq_true (by omega),cond_true]
    simp only [mg0,cond_true,mc,List.getElem?_eq_getElem hi,Option.bind_some,e1,e2,e3]
    simp only [List.getElem?_eq_getElem hk,Option.bind_some,e4,spanS]
    rw [decide_eq_true (by have:=hjl (l[i]).From (l[i]).To;simp only [LIM];omega),cond_true]
    have hjoin:matinsref17_Join_i1 FM (accS seen i) seen=some (0,seen):=by
      unfold accS
      split
      · exact refJoin_nil sc sr
      · exact refJoin_same sc sr
    rw [hjoin,Option.bind_some,mwi i (by omega)]
    have:=ih (i+1) m (by omega) (by omega)
    rw [show ((i+1:Nat):Int)=(i:Int)+1 by omega,List.take_succ_eq_append_getElem hi,List.map_append,List.flatten_append] at this
    simp only [List.map_cons,List.map_nil,List.flatten_cons,List.flatten_nil,List.append_nil] at this
    exact this
theorem all_ok (hst:Start jobs seen) (hI:Inv jobs seen G last l Gs) (hl:last≤63) (c0 c1 c3 c4 c5 c6 c7 c8 c9:Int) (c10:List UInt8):__matinslaw20_World__all_i1 FM c0 c1 l c3 c4 c5 c6 c7 c8 c9 c10 Gs=some (jobs,seen):=by
  have h16:=hI.mp.2.2.2.1
  obtain ⟨c1,_⟩:=ch_at _ _ hI.mp.2.2.2.2.1
  unfold __matinslaw20_World__all_i1
  rw [show __matinslaw20_World__all_i1_l0 FM l Gs FM 0 [] []=_ from all_l0 hst hI hl l.length 0 FM (by omega) (by show _<4000000;omega)]
  rw [all_jobs hst hI.mp]
  unfold accS
  rw [if_neg (by omega)]
  rfl
theorem sent_eq {g : Int} {o : api_Order} (h1 : 1 ≤ g) (h2 : g ≤ Gs.length) (h3 : Gs.length ≤ 1000) {r : api_Result} {s : api_Shard} {l' : List api_Shard} (hd : shard_Do FM (gr Gs (gi g)) o = some (r, s, l')) (c0 c1 : Int) (c2 : List api_Span) (c3 c4 c5 c6 c7 c8 c9 : Int) (c10 : List UInt8) :
    __matinslaw20_World__sent_i2 FM g o c0 c1 c2 c3 c4 c5 c6 c7 c8 c9 c10 Gs=some (r,s,Gs.set (gi g) l'):=by
  have hw:=wgi h1 (by omega)
  have hk:gi g<Gs.length:=by unfold gi;omega
  unfold __matinslaw20_World__sent_i2
  rw [decide_eq_false (by omega),cond_false,List.length_map,decide_eq_false (by omega)]
  simp only [Option.bind_some,cond_false,hw,mg0,cond_true,mc,gr_get hk,hd]
theorem heard_eq {A A' : api_Atlas} {x x' s : api_Shard} {r : api_Result} {d : Int} (hh : mover_Heard FM A x r s = some (x', d)) (hd0 : 0 ≤ d) (ha : d = 0 ∧ A' = A ∨ 0 < d ∧ atlas_Advance FM A d = some (A', 0)) (Gs : Grs) :
    __matinslaw20_World__heard_i1 FM x r s A.Groups A.Last A.Spans A.Plan.Kind A.Plan.Phase A.Plan.Shard A.Plan.Other A.Plan.Group A.Plan.Past A.Plan.Epoch A.Plan.Key Gs =
      some (x',A'.Groups,A'.Last,A'.Spans,A'.Plan.Kind,A'.Plan.Phase,A'.Plan.Shard,A'.Plan.Other,A'.Plan.Group,A'.Plan.Past,A'.Plan.Epoch,A'.Plan.Key):=by
  obtain ⟨a1,a2,a3,⟨p1,p2,p3,p4,p5,p6,p7,p8⟩⟩:=A
  unfold __matinslaw20_World__heard_i1
  simp only
  rw [hh]
  simp only [Option.bind_some]
  rcases ha with ⟨rfl,rfl⟩ | ⟨h1,h2⟩
  · rfl
  · rw [decide_eq_true h1,h2]
    simp only [cond_true,Option.bind_some,beq_self_eq_true]
    rw [decide_eq_false (by omega)]
    rfl
end
end Go.T
set_option linter.unusedVariables false
set_option linter.unusedSimpArgs false
namespace Go.T
open Go Go.Ab Go.Proofs
theorem awake20:matinslaw20_awake FM=some true:=by kernel_rfl
theorem start_l0 (n:Nat) (hn:n≤1000):∀ (d i m:Nat),i+d=n→d<m→matinslaw20_start_l0 FM (n:Int) m (i:Int) (List.replicate i [])=some (List.replicate n []):=by
  intro d
  induction d with
  | zero =>
    intro i m h hm
    obtain ⟨m,rfl⟩:∃ k,m=k+1:=⟨m - 1,by omega⟩
    unfold matinslaw20_start_l0
    rw [decide_eq_false (by omega),cond_false,show i=n by omega]
  | succ d ih =>
    intro i m h hm
    obtain ⟨m,rfl⟩:∃ k,m=k+1:=⟨m - 1,by omega⟩
    unfold matinslaw20_start_l0
    rw [decide_eq_true (by omega),cond_true,decide_eq_true (by rw [List.length_replicate];simp only [LIM];omega),cond_true,mwi i (by omega)]
    have:=ih (i+1) m (by omega) (by omega)
    rw [show ((i+1:Nat):Int)=(i:Int)+1 by omega,List.replicate_succ'] at this
    exact this
theorem start_eq (G : Int) (jobs : List api_Job) (seen : List api_Seen) (hl : jobs.length ≤ 1048576) (h : ∀ j, j ∈ jobs → j.Name.length ≤ 1048576) (hs : seen.length ≤ 1048576) (hj : ∀ r, r ∈ seen → r.Result.Jobs.length ≤ 1048576) :
    (∃ a1 a2 a3 a4 a5 a6 a7 a8 a9 a10 a11 Gs,matinslaw20_start FM G jobs seen=some (a1,a2,a3,a4,a5,a6,a7,a8,a9,a10,a11,false,Gs)) ∨
    (1≤G∧G≤8∧matinslaw20_start FM G jobs seen=some (G,1,[oneSpan],0,0,0,0,0,0,0,[],true,firstG G.toNat jobs seen)∧(jobs.length≤16→Start jobs seen)):=by
  unfold matinslaw20_start
  rcases new_ok G with ⟨h1,h2,e⟩ | ⟨a,e⟩
  · rw [e]
    simp only [Option.bind_some,bne_self_eq_false,cond_false]
    obtain ⟨v,hv,hw⟩:=start_chk jobs seen (by omega) h (seat_Check_ex seen (by omega))
    have hn:(G.toNat:Int)=G:=by omega
    have hl0:=start_l0 G.toNat (by omega) G.toNat 0 FM (by omega) (by show _<4000000;omega)
    rw [hn] at hl0
    simp only [List.replicate_zero,Int.natCast_zero] at hl0
    rw [hl0]
    have g0:(List.replicate G.toNat ([]:List api_Shard))[0]? = some []:=by
      rw [List.getElem?_eq_getElem (by simp;omega)];simp
    have g1:((List.replicate G.toNat ([]:List api_Shard)).set 0 [firstS jobs seen])[0]? = some [firstS jobs seen]:=List.getElem?_set_self (by simp;omega)
    simp only [Option.bind_some,show Int.toNat 0=0 from rfl,g0]
    rw [show (⟨1,1,1,[],[],jobs,seen⟩:api_Shard)=firstS jobs seen from rfl,g1]
    simp only [Option.bind_some,hv]
    cases v with
    | false=>exact .inl ⟨_,_,_,_,_,_,_,_,_,_,_,_,rfl⟩
    | true =>
      right
      obtain ⟨q1,q2,q3⟩:=hw rfl
      exact ⟨h1,h2,rfl,fun h16=>start_any q1 q3 h16 (by omega) q2 (fun r hr=>by have:=hj r hr;omega)⟩
  · left
    rw [e]
    exact ⟨_,_,_,_,_,_,_,_,_,_,_,_,rfl⟩
end Go.T
set_option linter.unusedVariables false
set_option linter.unusedSimpArgs false
namespace Go.T
open Go Go.Ab
def lateL1 (n:Nat) (k:Int) (A:api_Atlas) (x:api_Shard) (os:List api_Order) (gs:List Int) (Gs:Grs) :=
  matinslaw20_MoverLate_l1 FM n k A.Groups A.Last A.Spans A.Plan.Kind A.Plan.Phase A.Plan.Shard A.Plan.Other A.Plan.Group A.Plan.Past A.Plan.Epoch A.Plan.Key x.Id x.Epoch x.State x.From x.To x.Jobs x.Seen os gs Gs
theorem late_step {A A' : api_Atlas} {x x' : api_Shard} {Gs Gs' : Grs} {g : Int} {o : api_Order} (h : StepW A Gs x g o A' Gs' x') (n k : Nat) (hk : k < 12) (os : List api_Order) (gs : List Int) (h1 : os.length ≤ 100000) (h2 : gs.length ≤ 100000) (h3 : Gs.length ≤ 1000) :
    lateL1 (n+1) k A x os gs Gs=lateL1 n ((k+1:Nat):Int) A' x' (os++[o]) (gs++[g]) Gs':=by
  obtain ⟨hn,g1,g2,e,s,l',hd,rfl,d,hh,hd0,ha⟩:=h
  have hs:=sent_eq g1 g2 h3 hd A.Groups A.Last A.Spans A.Plan.Kind A.Plan.Phase A.Plan.Shard A.Plan.Other A.Plan.Group A.Plan.Past A.Plan.Epoch A.Plan.Key
  have he:=heard_eq hh hd0 ha (Gs.set (gi g) l')
  obtain ⟨a1,a2,a3,⟨p1,p2,p3,p4,p5,p6,p7,p8⟩⟩:=A
  obtain ⟨x1,x2,x3,x4,x5,x6,x7⟩:=x
  simp only at hs he
  unfold lateL1
  rw [matinslaw20_MoverLate_l1.eq_2]
  rw [decide_eq_true (by omega),cond_true]
  simp only
  rw [hn]
  simp only [Option.bind_some,Bool.not_true,cond_false]
  rw [hs]
  simp only [Option.bind_some]
  rw [decide_eq_true (by simp only [LIM];omega),cond_true,decide_eq_true (by simp only [LIM];omega),cond_true,he]
  simp only [Option.bind_some]
  rw [mwi k (by omega)]
  rfl
def outL1 (A:api_Atlas) (x:api_Shard) (os:List api_Order) (gs:List Int) (Gs:Grs) :=
  (A.Groups,A.Last,A.Spans,A.Plan.Kind,A.Plan.Phase,A.Plan.Shard,A.Plan.Other,A.Plan.Group,A.Plan.Past,A.Plan.Epoch,A.Plan.Key,x.Id,x.Epoch,x.State,x.From,x.To,x.Jobs,x.Seen,os,gs,Gs)
theorem late_end {A : api_Atlas} {x : api_Shard} {g : Int} {o : api_Order} (h : mover_Next FM A x = some (g, o, false)) (n k : Nat) (hk : k < 12) (os : List api_Order) (gs : List Int) (Gs : Grs) :
    lateL1 (n+1) k A x os gs Gs=some (outL1 A x os gs Gs):=by
  obtain ⟨a1,a2,a3,⟨p1,p2,p3,p4,p5,p6,p7,p8⟩⟩:=A
  obtain ⟨x1,x2,x3,x4,x5,x6,x7⟩:=x
  unfold lateL1
  rw [matinslaw20_MoverLate_l1.eq_2]
  rw [decide_eq_true (by omega),cond_true]
  simp only
  rw [h]
  rfl
theorem late_drive {A A' : api_Atlas} {x x' : api_Shard} {Gs Gs' : Grs} {L : List (Int × api_Order)} (h : Drive A Gs x L A' Gs' x') : ∀ (n k : Nat) (os : List api_Order) (gs : List Int), k + L.length < 12 → L.length < n → os.length + L.length ≤ 100000 → gs.length + L.length ≤ 100000 → Gs.length ≤ 1000 →
    (∃ g o,mover_Next FM A' x'=some (g,o,false))→lateL1 n k A x os gs Gs=some (outL1 A' x' (os++L.map (·.2)) (gs++L.map (·.1)) Gs'):=by
  induction h with
  | nil A Gs x =>
    intro n k os gs h1 h2 h3 h4 h5 hno
    obtain ⟨n,rfl⟩:∃ k,n=k+1:=⟨n - 1,by omega⟩
    obtain ⟨g,o,hno⟩:=hno
    rw [late_end hno n k (by omega)]
    simp
  | cons h t ih =>
    intro n k os gs h1 h2 h3 h4 h5 hno
    simp only [List.length_cons] at h1 h2 h3 h4
    obtain ⟨n,rfl⟩:∃ k,n=k+1:=⟨n - 1,by omega⟩
    have hl:∀ {A A':api_Atlas} {x x':api_Shard} {Gs Gs':Grs} {g:Int} {o:api_Order},StepW A Gs x g o A' Gs' x'→Gs'.length=Gs.length:=fun h=>by
      obtain ⟨_,_,_,_,_,_,_,rfl,_⟩:=h
      simp
    rw [late_step h n k (by omega) os gs (by omega) (by omega) h5,ih n (k+1) _ _ (by omega) (by omega) (by simp;omega) (by simp;omega) (by rw [hl h];exact h5) hno]
    simp
structure LateI (jobs:List api_Job) (G:Int) (i:Nat) (A:api_Atlas) (Gs:Grs) (os:List api_Order) (gs:List Int):Prop where
  over:A.Plan=noP
  grps:A.Groups=G
  inv:Inv jobs [] G A.Last A.Spans Gs
  last:A.Last≤1+i
  lens:gs.length=os.length
  few:os.length≤4 * i
  done:∀ p,p∈gs.zip os→Done Gs p.1 p.2
theorem LateI.next {jobs:List api_Job} {G:Int} {i:Nat} {A:api_Atlas} {Gs:Grs} {os:List api_Order} {gs:List Int} (h:LateI jobs G i A Gs os gs) (x:api_Shard):∃ g o,mover_Next FM A x=some (g,o,false) :=
  next_no (mp_spans (a:=A) (by rw [h.grps];exact h.inv.mp)) h.over x
theorem LateI.up {jobs:List api_Job} {G:Int} {i:Nat} {A:api_Atlas} {Gs:Grs} {os:List api_Order} {gs:List Int} (h:LateI jobs G i A Gs os gs):LateI jobs G (i+1) A Gs os gs :=
  ⟨h.over,h.grps,h.inv,by have:=h.last;omega,h.lens,by have:=h.few;omega,h.done⟩
theorem zip_maps:∀ L:List (Int×api_Order),(L.map (·.1)).zip (L.map (·.2))=L:=by
  intro L
  induction L with
  | nil=>rfl
  | cons a L ih=>rw [List.map_cons,List.map_cons,List.zip_cons_cons,ih]
theorem late_turn {jobs : List api_Job} {G : Int} {i : Nat} {A : api_Atlas} {Gs : Grs} {os : List api_Order} {gs : List Int} (hst : Start jobs []) (h : LateI jobs G i A Gs os gs) (hi : i < 60) (q : api_Plan) (hq : q.Key.length ≤ 1048576) :
    (∃ b e,e≠0∧atlas_Begin FM A q=some (b,e)) ∨
    ∃ A1 A' x' os' gs' Gs',atlas_Begin FM A q=some (A1,0)∧lateL1 FM 0 A1 noS os gs Gs=some (outL1 A' x' os' gs' Gs')∧LateI jobs G (i+1) A' Gs' os' gs':=by
  have hA:=atlas_eta A h.over h.grps
  have h1:=mp_last h.inv.mp
  have hl:=h.last
  have hlen:=h.inv.len
  have hG:=h.inv.mp.2.1
  rcases plan_runs hst h.inv h1 (by omega) q hq with ⟨e,he,hb⟩ | ⟨A1,A',Gs',hb,⟨⟨L,x',hL,hd,hdone⟩,_,e1,e2,hI,hl0,hl1,hmono,hlen'⟩⟩
  · rw [← hA] at hb
    exact .inl ⟨_,e,he,hb⟩
  · rw [← hA] at hb
    right
    have hno:∃ g o,mover_Next FM A' x'=some (g,o,false):=next_no (mp_spans (a:=A') (by rw [e2];exact hI.mp)) e1 x'
    have hf:=h.few
    have hle:=h.lens
    refine ⟨A1,A',x',_,_,Gs',hb,late_drive hd FM 0 os gs (by omega) (by show _<4000000;omega) (by omega) (by omega) (by omega) hno,⟨e1,e2,hI,by omega,by simp [hle],by simp;omega,fun p hp=>?_⟩⟩
    rw [List.zip_append hle,List.mem_append] at hp
    rcases hp with hp | hp
    · exact (h.done p hp).mono hmono hlen'
    · rw [zip_maps] at hp
      exact hdone p hp
def lateL0 (script:List matinslaw20_Turn) (n:Nat) (i:Int) (A:api_Atlas) (x:api_Shard) (os:List api_Order) (gs:List Int) (Gs:Grs) :=
  matinslaw20_MoverLate_l0 FM script n i A.Groups A.Last A.Spans A.Plan.Kind A.Plan.Phase A.Plan.Shard A.Plan.Other A.Plan.Group A.Plan.Past A.Plan.Epoch A.Plan.Key x.Id x.Epoch x.State x.From x.To x.Jobs x.Seen os gs Gs
def outL0 (A:api_Atlas) (os:List api_Order) (gs:List Int) (Gs:Grs) :=
  (A.Groups,A.Last,A.Spans,A.Plan.Kind,A.Plan.Phase,A.Plan.Shard,A.Plan.Other,A.Plan.Group,A.Plan.Past,A.Plan.Epoch,A.Plan.Key,os,gs,Gs)
theorem late_l0 {jobs : List api_Job} {G : Int} (hst : Start jobs []) (script : List matinslaw20_Turn) (hsl : script.length ≤ 1048576) (hk : ∀ t, t ∈ script → t.Plan.Key.length ≤ 1048576) :
    ∀ (d i m:Nat) (A:api_Atlas) (x:api_Shard) (os:List api_Order) (gs:List Int) (Gs:Grs),i+d=min script.length 60→d<m→LateI jobs G i A Gs os gs →
    ∃ A' os' gs' Gs',LateI jobs G 60 A' Gs' os' gs'∧lateL0 script m i A x os gs Gs=some (outL0 A' os' gs' Gs'):=by
  intro d
  induction d with
  | zero =>
    intro i m A x os gs Gs h hm hI
    obtain ⟨m,rfl⟩:∃ k,m=k+1:=⟨m - 1,by omega⟩
    refine ⟨A,os,gs,Gs,⟨hI.over,hI.grps,hI.inv,by have:=hI.last;omega,hI.lens,by have:=hI.few;omega,hI.done⟩,?_⟩
    unfold lateL0
    rw [matinslaw20_MoverLate_l0.eq_2]
    have hc:(bif decide ((i:Int)<(script.length:Int)) then some (decide ((i:Int)<60)) else some false)=some false:=by
      by_cases c:i<script.length
      · rw [decide_eq_true (by omega),cond_true,decide_eq_false (by omega)]
      · rw [decide_eq_false (by omega),cond_false]
    rw [hc]
    rfl
  | succ d ih =>
    intro i m A x os gs Gs h hm hI
    obtain ⟨m,rfl⟩:∃ k,m=k+1:=⟨m - 1,by omega⟩
    have hi:i<script.length:=by omega
    have key:∃ A' x' os' gs' Gs',LateI jobs G (i+1) A' Gs' os' gs'∧lateL0 script (m+1) i A x os gs Gs=lateL0 script m ((i+1:Nat):Int) A' x' os' gs' Gs':=by
      unfold lateL0
      rw [matinslaw20_MoverLate_l0.eq_2]
      have hc:(bif decide ((i:Int)<(script.length:Int)) then some (decide ((i:Int)<60)) else some false)=some true:=by
        rw [decide_eq_true (by omega),cond_true,decide_eq_true (by omega)]
      rw [hc]
      simp only [Option.bind_some,cond_true,mg0,mc,List.getElem?_eq_getElem hi]
      rw [mwi i (by omega)]
      have quiet:∀ x,lateL1 FM 0 A x os gs Gs=some (outL1 A x os gs Gs):=fun x=>by
        obtain ⟨g,o,hn⟩:=hI.next x
        exact late_end hn 3999999 0 (by omega) os gs Gs
      by_cases c:(script[i]).Kind=0
      · rw [show ((script[i]).Kind==0)=true by simpa using c,cond_true]
        rcases late_turn hst hI (by omega) (script[i]).Plan (hk _ (List.getElem_mem hi)) with ⟨b,e,he,hb⟩ | ⟨A1,A',x',os',gs',Gs',hb,hrun,hI'⟩
        · have hb':atlas_Begin FM ⟨A.Groups,A.Last,A.Spans,⟨A.Plan.Kind,A.Plan.Phase,A.Plan.Shard,A.Plan.Other,A.Plan.Group,A.Plan.Past,A.Plan.Epoch,A.Plan.Key⟩⟩ (script[i]).Plan=some (b,e):=hb
          rw [hb']
          simp only [Option.bind_some,show (e==0)=false by simpa using he,cond_false]
          have:=quiet x
          unfold lateL1 at this
          rw [this]
          exact ⟨A,x,os,gs,Gs,hI.up,rfl⟩
        · have hb':atlas_Begin FM ⟨A.Groups,A.Last,A.Spans,⟨A.Plan.Kind,A.Plan.Phase,A.Plan.Shard,A.Plan.Other,A.Plan.Group,A.Plan.Past,A.Plan.Epoch,A.Plan.Key⟩⟩ (script[i]).Plan=some (A1,0):=hb
          rw [hb']
          simp only [Option.bind_some,beq_self_eq_true,cond_true]
          unfold lateL1 at hrun
          rw [show matinslaw20_MoverLate_l1 FM FM 0 A1.Groups A1.Last A1.Spans A1.Plan.Kind A1.Plan.Phase A1.Plan.Shard A1.Plan.Other A1.Plan.Group A1.Plan.Past A1.Plan.Epoch A1.Plan.Key 0 0 0 [] [] [] [] os gs Gs=_ from hrun]
          exact ⟨A',x',os',gs',Gs',hI',rfl⟩
      · rw [show ((script[i]).Kind==0)=false by simpa using c,cond_false]
        simp only [Option.bind_some]
        have:=quiet x
        unfold lateL1 at this
        rw [this]
        exact ⟨A,x,os,gs,Gs,hI.up,rfl⟩
    obtain ⟨A',x',os',gs',Gs',hI',e⟩:=key
    rw [e]
    exact ih (i+1) m A' x' os' gs' Gs' (by omega) (by omega) hI'
end Go.T
set_option linter.unusedVariables false
set_option linter.unusedSimpArgs false
namespace Go.T
open Go Go.Ab
theorem late_index (y:Int) (L:Nat) (h0:0<L) (h1:L≤1000000):∃ m:Nat,m<L∧IntKind.wrap IntKind.u64 (L:Int)=(L:Int)∧IntKind.wrap IntKind.i64 (@Int.tmod (IntKind.wrap IntKind.u64 y) (L:Int))=(m:Int):=by
  have hw:IntKind.wrap IntKind.u64 (L:Int)=(L:Int):=by rw [IntKind.wrap_u64];omega
  have hy:0≤IntKind.wrap IntKind.u64 y:=by rw [IntKind.wrap_u64];omega
  have a1:0≤Int.tmod (IntKind.wrap IntKind.u64 y) (L:Int):=Int.tmod_nonneg _ hy
  have a2:Int.tmod (IntKind.wrap IntKind.u64 y) (L:Int)<(L:Int):=Int.tmod_lt_of_pos _ (by omega)
  refine ⟨(Int.tmod (IntKind.wrap IntKind.u64 y) (L:Int)).toNat,by omega,hw,?_⟩
  rw [wrap_id (by omega) (by omega)]
  omega
theorem late_l2 {jobs : List api_Job} {G : Int} {i0 : Nat} {A : api_Atlas} {Gs : Grs} {os : List api_Order} {gs : List Int} (h : LateI jobs G i0 A Gs os gs) (hi0 : i0 ≤ 60) (late : List Int) (hl : late.length ≤ 1048576) (c0 c1 : Int) (c2 : List api_Span) (c3 c4 c5 c6 c7 c8 c9 : Int) (c10 : List UInt8) :
    ∀ (d i m:Nat),i+d=min late.length 60→d<m→matinslaw20_MoverLate_l2 FM late c0 c1 c2 c3 c4 c5 c6 c7 c8 c9 c10 os gs m (i:Int) Gs=some Gs:=by
  have hf:=h.few
  have hlens:=h.lens
  have hlast:=h.last
  have hlen:=h.inv.len
  have hG:=h.inv.mp.2.1
  have h1:=mp_last h.inv.mp
  intro d
  induction d with
  | zero =>
    intro i m hd hm
    obtain ⟨m,rfl⟩:∃ k,m=k+1:=⟨m - 1,by omega⟩
    rw [matinslaw20_MoverLate_l2.eq_2]
    have hc:(bif decide ((i:Int)<(late.length:Int)) then (bif decide ((i:Int)<60) then some (decide ((0:Int)<((List.map api_Order.c os).length:Int))) else some false) else some false)=some false:=by
      by_cases c:i<late.length
      · rw [decide_eq_true (by omega),cond_true,decide_eq_false (by omega),cond_false]
      · rw [decide_eq_false (by omega),cond_false]
    rw [hc]
    rfl
  | succ d ih =>
    intro i m hd hm
    obtain ⟨m,rfl⟩:∃ k,m=k+1:=⟨m - 1,by omega⟩
    have hi:i<late.length:=by omega
    rw [matinslaw20_MoverLate_l2.eq_2]
    rw [decide_eq_true (show (i:Int)<(late.length:Int) by omega),cond_true,decide_eq_true (show (i:Int)<60 by omega),cond_true,List.length_map]
    by_cases h0:0<os.length
    · rw [decide_eq_true (show (0:Int)<(os.length:Int) by omega)]
      simp only [Option.bind_some,cond_true,mg0,mc,List.getElem?_eq_getElem hi]
      obtain ⟨k,hk,w1,w2⟩:=late_index (late[i]) os.length h0 (by omega)
      have hk2:k<gs.length:=by omega
      rw [w1,decide_eq_true (show ((os.length:Nat):Int)≠0 by omega)]
      simp only [cond_true,w2,mg0,mc,List.getElem?_eq_getElem hk,List.getElem?_eq_getElem hk2,Option.bind_some]
      have hp:(gs[k],os[k])∈gs.zip os:=by
        have:k<(gs.zip os).length:=by rw [List.length_zip];omega
        have e:(gs.zip os)[k]=(gs[k],os[k]):=List.getElem_zip
        rw [← e]
        exact List.getElem_mem this
      have hdone:=h.done _ hp
      obtain ⟨e,s,hd2⟩:=done_same h.inv (by omega) (by omega) hdone
      rw [sent_eq hdone.1 hdone.2.1 (by omega) hd2]
      have hgk:gi gs[k]<Gs.length:=by
        have a:=hdone.1
        have b:=hdone.2.1
        unfold gi
        simp only at a b
        omega
      simp only [Option.bind_some,set_gr hgk]
      rw [mwi i (by omega)]
      have:=ih (i+1) m (by omega) (by omega)
      rw [show ((i+1:Nat):Int)=(i:Int)+1 by omega] at this
      exact this
    · rw [decide_eq_false (show ¬ (0:Int)<(os.length:Int) by omega)]
      rfl
theorem MoverLate_true (G : Int) (jobs : List api_Job) (script : List matinslaw20_Turn) (late : List Int) (hl : jobs.length ≤ 1048576) (h : ∀ j, j ∈ jobs → j.Name.length ≤ 1048576) (hsl : script.length ≤ 1048576) (hk : ∀ t, t ∈ script → t.Plan.Key.length ≤ 1048576) (hll : late.length ≤ 1048576) :
    matinslaw20_MoverLate FM G jobs script late=some true:=by
  unfold matinslaw20_MoverLate
  rw [awake20]
  simp only [Option.bind_some,Bool.not_true,cond_false]
  rcases start_eq G jobs [] hl h (by simp) (fun r hr=>by simp at hr) with ⟨a1,a2,a3,a4,a5,a6,a7,a8,a9,a10,a11,Gs,e⟩ | ⟨g1,g2,e,hst⟩
  · rw [e];rfl
  rw [e]
  simp only [Option.bind_some,Bool.not_true,cond_false,List.length_map]
  by_cases h16:jobs.length≤16
  rotate_left
  · rw [decide_eq_true (show (16:Int)<(jobs.length:Int) by omega)];rfl
  rw [decide_eq_false (show ¬ (16:Int)<(jobs.length:Int) by omega),cond_false]
  have hst:=hst h16
  have hI:LateI jobs G 0 ⟨G,1,[oneSpan],noP⟩ (firstG G.toNat jobs []) [] []:=⟨rfl,rfl,first_inv hst G g1 g2,by show (1:Int)≤1+0;decide,rfl,by simp,fun p hp=>by simp at hp⟩
  obtain ⟨A',os',gs',Gs',hI',e'⟩:=late_l0 hst script hsl hk (min script.length 60) 0 FM _ noS [] [] _ (by omega) (by show _<4000000;omega) hI
  have hA:=atlas_eta A' hI'.over hI'.grps
  have hlast:=hI'.last
  unfold lateL0 at e'
  rw [show matinslaw20_MoverLate_l0 FM script FM 0 G 1 [oneSpan] 0 0 0 0 0 0 0 [] 0 0 0 [] [] [] [] [] [] (firstG G.toNat jobs [])=_ from e']
  unfold outL0
  simp only [Option.bind_some]
  rw [fits_ok hI'.inv (by omega)]
  simp only [Option.bind_some,Bool.not_true,cond_false]
  rw [all_ok hst hI'.inv (by omega)]
  simp only [Option.bind_some]
  rw [show matinslaw20_MoverLate_l2 FM late A'.Groups A'.Last A'.Spans A'.Plan.Kind A'.Plan.Phase A'.Plan.Shard A'.Plan.Other A'.Plan.Group A'.Plan.Past A'.Plan.Epoch A'.Plan.Key os' gs' FM 0 Gs'=some Gs' from
    late_l2 hI' (Nat.le_refl _) late hll _ _ _ _ _ _ _ _ _ _ _ (min late.length 60) 0 FM (by omega) (by show _<4000000;omega)]
  simp only [Option.bind_some]
  rw [all_ok hst hI'.inv (by omega),fits_ok hI'.inv (by omega)]
  simp only [Option.bind_some,cond_true,Jobs_refl hl,Books_refl (l:=[]) (by simp) (fun y hy=>by simp at hy)]
end Go.T
set_option linter.unusedVariables false
namespace Go.T
open Go Go.Ab
theorem MoverLate_ok (G : Int) (jobs : List api_Job) (script : List matinslaw20_Turn) (late : List Int) (h1 : List.length jobs ≤ 1048576 ∧ ∀ y, y ∈ jobs → api_Job.ok 1048576 y) (h2 : List.length script ≤ 1048576 ∧ ∀ y, y ∈ script → matinslaw20_Turn.ok 1048576 y)
    (h3:List.length late≤1048576∧∀ y,y∈late→okI .i64 y):matinslaw20_MoverLate 4000000 G jobs script late=some true :=
  MoverLate_true G jobs script late h1.1 (fun j hj=>(h1.2 j hj).1) h2.1 (fun t ht=>by
    obtain ⟨_,hp,_⟩:=h2.2 t ht
    exact hp.2.2.2.2.2.2.2.1) h3.1
end Go.T
