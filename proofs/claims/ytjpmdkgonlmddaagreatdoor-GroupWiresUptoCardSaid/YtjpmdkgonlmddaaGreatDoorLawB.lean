import Derived.Test.YtjpmdkgonlmddaaGreatDoorLawA
import Derived.KernelRfl
set_option linter.unusedVariables false
set_option linter.unusedSimpArgs false
namespace Go.T
open Go Go.Ab
def byI (s:List UInt8):List Int:=List.map (fun (b:UInt8)=>(((UInt8.toNat b):Nat):Int)) s
theorem Zfa (s:List UInt8):(byI s).length=s.length:=by simp [byI]
theorem ZjK (s:List UInt8):Byt (byI s):=fun y hy=>by
  obtain ⟨b,_,rfl⟩:=List.mem_map.1 hy
  have:=b.toNat_lt
  omega
theorem Znb (k : Nat) : ∀ (n m : Nat) (l : List Int), n < 128 ^ (k + 1) → n < 18446744073709551616 → k < m → l.length + k + 1 ≤ LIM →
    ∃ (j:Nat) (t:List Int),ZaE FF m (n:Int) l=some ((j:Int),l++t)∧j<128∧t++[(j:Int)]=putN k n∧t.length≤k:=by
  induction k with
  | zero =>
    intro n m l h _ hm hl
    obtain ⟨m,rfl⟩:∃ q,m=q+1:=⟨m - 1,by omega⟩
    refine ⟨n,[],?_,by simpa using h,?_,by simp⟩
    · simp only [ZaE]
      rw [show decide ((127:Int)<(n:Int))=false from decide_eq_false (by simp at h;omega)]
      simp
    · simp at h;simp [putN,Nat.mod_eq_of_lt (show n<256 by omega)]
  | succ k ih =>
    intro n m l h h64 hm hl
    obtain ⟨m,rfl⟩:∃ q,m=q+1:=⟨m - 1,by omega⟩
    by_cases hn:n<128
    · refine ⟨n,[],?_,hn,by simp [putN,hn],by simp⟩
      simp only [ZaE]
      rw [show decide ((127:Int)<(n:Int))=false from decide_eq_false (by omega)]
      simp
    · have hb:IntKind.wrap IntKind.u8 (IntKind.wrap IntKind.u64 ((128:Int)+(@Int.tmod (n:Int) (128:Int))))=((n % 128+128:Nat):Int):=by
        rw [Int.tmod_eq_emod_of_nonneg (by omega),IntKind.wrap_u64,IntKind.wrap_u8];omega
      have hd:IntKind.wrap IntKind.u64 (@Int.tdiv (n:Int) (128:Int))=((n / 128:Nat):Int):=by
        rw [Int.tdiv_eq_ediv_of_nonneg (by omega),IntKind.wrap_u64];omega
      obtain ⟨j,t,h1,h2,h3,h4⟩:=ih (n / 128) m (l++[((n % 128+128:Nat):Int)]) (by rw [Nat.pow_succ] at h;omega) (by omega) (by omega) (by simp;omega)
      refine ⟨j,((n % 128+128:Nat):Int)::t,?_,h2,?_,by simp;omega⟩
      · simp only [ZaE]
        rw [show decide ((127:Int)<(n:Int))=true from decide_eq_true (by omega),cond_true,show decide (l.length+1≤LIM)=true from decide_eq_true (by omega),cond_true,hb,hd]
        rw [h1];simp
      · rw [List.cons_append,h3,putN,if_neg hn]
theorem Zle (n:Nat) (h:n<18446744073709551616) (l:List Int) (hl:l.length+11≤LIM):ZaW FF (n:Int) l=some (l++putL n):=by
  obtain ⟨j,t,h1,h2,h3,h4⟩:=Znb 9 n FF l (by simp;omega) h (by decide) (by omega)
  unfold ZaW
  rw [h1]
  simp only [Option.bind_some]
  rw [show decide ((l++t).length+1≤LIM)=true from decide_eq_true (by simp;omega),cond_true]
  rw [show IntKind.wrap IntKind.u8 (j:Int)=(j:Int) by rw [IntKind.wrap_u8];omega]
  rw [List.append_assoc,h3];rfl
def okF (f:Zac):Prop:=(f.Kind=1∧f.N<9223372036854775808)∨f.Kind=3
def encF1 (f:Zac):Option (List Int) :=
  if f.Kind=1 then (if 0≤f.N then some (putL f.N.toNat) else none) else (if f.S.length≤65536 then some (putL f.S.length++byI f.S) else none)
def encFs:List Zac→Option (List Int)
  | []=>some []
  | f::r=>match encF1 f with
    | none=>none
    | some a=>(encFs r).map (a ++ ·)
theorem ZbL (n:Nat):1≤(putL n).length∧(putL n).length≤10:=Zml 9 n
theorem ZlX {f:Zac} {a:List Int} (h:encF1 f=some a):1≤a.length∧a.length≤65546:=by
  unfold encF1 at h
  split at h
  · split at h
    · injection h with h;subst h;have:=ZbL f.N.toNat;omega
    · cases h
  · split at h
    · injection h with h;subst h;have:=ZbL f.S.length;simp [Zfa];omega
    · cases h
theorem Zhz:∀ {l:List Zac} {b:List Int},encFs l=some b→l.length≤b.length∧b.length≤65546 * l.length
  | [],b,h=>by simp [encFs] at h;subst h;simp
  | f::r,b,h=>by
    simp only [encFs] at h
    cases h1:encF1 f with
    | none=>rw [h1] at h;cases h
    | some a =>
      rw [h1] at h
      cases h2:encFs r with
      | none=>rw [h2] at h;cases h
      | some c =>
        rw [h2] at h
        simp only [Option.map_some,Option.some.injEq] at h
        subst h
        have:=ZlX h1
        have:=Zhz h2
        simp;omega
def encR (l:List Int) (o:Option (List Int)):(Int×List Int) ⊕ List Int:=match o with | some b=>.inr (l++b) | none=>.inl (1,[])
theorem Zjj {f:Zac} {r:List Zac} {l:List Int}:encR l (encFs (f::r))=(match encF1 f with | none=>.inl (1,[]) | some a=>encR (l++a) (encFs r)):=by
  simp only [encFs]
  cases encF1 f with
  | none=>rfl
  | some a=>cases encFs r<;>simp [encR]
theorem Zji (list : List Zac) (h1000 : list.length ≤ 1000) : ∀ (r : List Zac) (m i : Nat) (l : List Int), list.drop i = r → i ≤ list.length → (∀ f, f ∈ r → okF f) → r.length < m → l.length + 65546 * r.length + 20 ≤ LIM →
    ZbT FF list m (i:Int) l=some (encR l (encFs r))
  | [],m,i,l,hd,hi,_,hm,hl=>by
    obtain ⟨m,rfl⟩:∃ q,m=q+1:=⟨m - 1,by omega⟩
    have:list.length≤i:=List.drop_eq_nil_iff.1 hd
    simp only [ZbT]
    rw [show decide ((i:Int)<(list.length:Int))=false from decide_eq_false (by omega),cond_false]
    simp [encR,encFs]
  | f::r,m,i,l,hd,hi,hok,hm,hl=>by
    obtain ⟨m,rfl⟩:∃ q,m=q+1:=⟨m - 1,by simp at hm;omega⟩
    have hil:i<list.length:=by
      rcases Nat.lt_or_ge i list.length with h | h
      · exact h
      · rw [List.drop_eq_nil_iff.2 h] at hd;cases hd
    have hf:list[i]? = some f:=by
      have:=List.getElem?_drop (xs:=list) (i:=i) (j:=0)
      rw [hd] at this;simpa using this.symm
    have hd':list.drop (i+1)=r:=by rw [← List.drop_drop,hd];rfl
    simp only [List.length_cons] at hm hl
    have ih:=fun l hl=>Zji list h1000 r m (i+1) l hd' (by omega) (fun f hf=>hok f (List.mem_cons_of_mem _ hf)) (by omega) hl
    rw [Zjj]
    simp only [ZbT]
    rw [show decide ((i:Int)<(list.length:Int))=true from decide_eq_true (by omega),cond_true,
      show decide ((0:Int)≤(i:Int))=true from decide_eq_true (by omega),cond_true,Int.toNat_natCast,hf]
    simp only [Option.bind_some]
    have hw:IntKind.wrap IntKind.i64 ((i:Int)+1)=((i+1:Nat):Int):=by rw [IntKind.wrap_i64];omega
    rw [hw]
    rcases hok f List.mem_cons_self with ⟨hk,hN⟩ | hk
    · have e1:(f.Kind==(1:Int))=true:=by rw [hk];rfl
      rw [e1,cond_true]
      simp only [Option.bind_some]
      by_cases h0:0≤f.N
      · have e2:encF1 f=some (putL f.N.toNat):=by unfold encF1;rw [if_pos hk,if_pos h0]
        rw [decide_eq_true h0,cond_true,e2]
        have e3:IntKind.wrap IntKind.u64 f.N=((f.N.toNat:Nat):Int):=by rw [IntKind.wrap_u64];omega
        rw [e3,ZmM f.N.toNat (by omega) l (by omega)]
        simp only [Option.bind_some,Sum.elim_inr]
        exact ih _ (by have:=ZbL f.N.toNat;simp;omega)
      · have e2:encF1 f=none:=by unfold encF1;rw [if_pos hk,if_neg h0]
        rw [decide_eq_false h0,cond_false,e2]
        have e4:(f.Kind==(2:Int))=false:=by rw [hk];rfl
        have e5:(f.Kind==(3:Int))=false:=by rw [hk];rfl
        rw [e4,cond_false,e5,cond_false]
        simp
    · have e1:(f.Kind==(1:Int))=false:=by rw [hk];rfl
      have e4:(f.Kind==(2:Int))=false:=by rw [hk];rfl
      have e5:(f.Kind==(3:Int))=true:=by rw [hk];rfl
      have hk1:¬ f.Kind=1:=by rw [hk];decide
      rw [e1,cond_false,e4,e5,cond_true]
      simp only [Option.bind_some,cond_false]
      by_cases h0:f.S.length≤65536
      · have e2:encF1 f=some (putL f.S.length++byI f.S):=by unfold encF1;rw [if_neg hk1,if_pos h0]
        rw [show decide (((f.S.length:Nat):Int)≤(65536:Int))=true from decide_eq_true (by omega),cond_true,e2]
        have e3:IntKind.wrap IntKind.u64 ((f.S.length:Nat):Int)=((f.S.length:Nat):Int):=by rw [IntKind.wrap_u64];omega
        have hp:=ZbL f.S.length
        rw [e3,ZmM f.S.length (by omega) l (by omega)]
        simp only [Option.bind_some]
        rw [show decide (List.length (l++putL f.S.length)+List.length f.S≤LIM)=true from decide_eq_true (by simp;omega),cond_true]
        simp only [Option.bind_some,Sum.elim_inr]
        rw [show l++putL f.S.length++List.map (fun (b:UInt8)=>(((UInt8.toNat b):Nat):Int)) f.S=l++(putL f.S.length++byI f.S) by rw [List.append_assoc];rfl]
        exact ih _ (by simp [Zfa];omega)
      · have e2:encF1 f=none:=by unfold encF1;rw [if_neg hk1,if_neg h0]
        rw [show decide (((f.S.length:Nat):Int)≤(65536:Int))=false from decide_eq_false (by omega),cond_false,e2]
        simp
theorem ZlW (list:List Zac) (hok:∀ f,f∈list→okF f) (hl:list.length≤1000):ZcX FF list=some (match encFs list with | some b=>(0,b) | none=>(1,[])):=by
  unfold ZcX
  rw [show (0:Int)=((0:Nat):Int) from rfl,Zji list hl list FF 0 [] (by simp) (by omega) hok (by show list.length<4000000;omega) (by simp [LIM];omega)]
  cases encFs list<;>simp [encR]
theorem Zh2 (list : List Zac) (h1000 : list.length ≤ 1000) : ∀ (r : List Zac) (m i : Nat) (l : List Int), list.drop i = r → i ≤ list.length → (∀ f, f ∈ r → okF f) → r.length < m → l.length + 65546 * r.length + 20 ≤ LIM →
    ZaP FF list m (i:Int) l=some (encR l (encFs r))
  | [],m,i,l,hd,hi,_,hm,hl=>by
    obtain ⟨m,rfl⟩:∃ q,m=q+1:=⟨m - 1,by omega⟩
    have:list.length≤i:=List.drop_eq_nil_iff.1 hd
    simp only [ZaP]
    rw [show decide ((i:Int)<(list.length:Int))=false from decide_eq_false (by omega),cond_false]
    simp [encR,encFs]
  | f::r,m,i,l,hd,hi,hok,hm,hl=>by
    obtain ⟨m,rfl⟩:∃ q,m=q+1:=⟨m - 1,by simp at hm;omega⟩
    have hil:i<list.length:=by
      rcases Nat.lt_or_ge i list.length with h | h
      · exact h
      · rw [List.drop_eq_nil_iff.2 h] at hd;cases hd
    have hf:list[i]? = some f:=by
      have:=List.getElem?_drop (xs:=list) (i:=i) (j:=0)
      rw [hd] at this;simpa using this.symm
    have hd':list.drop (i+1)=r:=by rw [← List.drop_drop,hd];rfl
    simp only [List.length_cons] at hm hl
    have ih:=fun l hl=>Zh2 list h1000 r m (i+1) l hd' (by omega) (fun f hf=>hok f (List.mem_cons_of_mem _ hf)) (by omega) hl
    rw [Zjj]
    simp only [ZaP]
    rw [show decide ((i:Int)<(list.length:Int))=true from decide_eq_true (by omega),cond_true,
      show decide ((0:Int)≤(i:Int))=true from decide_eq_true (by omega),cond_true,Int.toNat_natCast,hf]
    simp only [Option.bind_some]
    have hw:IntKind.wrap IntKind.i64 ((i:Int)+1)=((i+1:Nat):Int):=by rw [IntKind.wrap_i64];omega
    rw [hw]
    rcases hok f List.mem_cons_self with ⟨hk,hN⟩ | hk
    · have e1:(f.Kind==(1:Int))=true:=by rw [hk];rfl
      rw [e1,cond_true]
      by_cases h0:0≤f.N
      · have e2:encF1 f=some (putL f.N.toNat):=by unfold encF1;rw [if_pos hk,if_pos h0]
        rw [show decide (f.N<0)=false from decide_eq_false (by omega),cond_false,e2]
        have e3:IntKind.wrap IntKind.u64 f.N=((f.N.toNat:Nat):Int):=by rw [IntKind.wrap_u64];omega
        rw [e3,Zle f.N.toNat (by omega) l (by omega)]
        simp only [Option.bind_some,Sum.elim_inr]
        exact ih _ (by have:=ZbL f.N.toNat;simp;omega)
      · have e2:encF1 f=none:=by unfold encF1;rw [if_pos hk,if_neg h0]
        rw [show decide (f.N<0)=true from decide_eq_true (by omega),cond_true,e2]
        simp
    · have e1:(f.Kind==(1:Int))=false:=by rw [hk];rfl
      have e4:(f.Kind==(2:Int))=false:=by rw [hk];rfl
      have e5:(f.Kind==(3:Int))=true:=by rw [hk];rfl
      have hk1:¬ f.Kind=1:=by rw [hk];decide
      rw [e1,cond_false,e4,cond_false,e5,cond_true]
      by_cases h0:f.S.length≤65536
      · have e2:encF1 f=some (putL f.S.length++byI f.S):=by unfold encF1;rw [if_neg hk1,if_pos h0]
        rw [show decide ((65536:Int)<((f.S.length:Nat):Int))=false from decide_eq_false (by omega),cond_false,e2]
        have e3:IntKind.wrap IntKind.u64 ((f.S.length:Nat):Int)=((f.S.length:Nat):Int):=by rw [IntKind.wrap_u64];omega
        have hp:=ZbL f.S.length
        rw [e3,Zle f.S.length (by omega) l (by omega)]
        simp only [Option.bind_some]
        rw [show decide (List.length (l++putL f.S.length)+List.length f.S≤LIM)=true from decide_eq_true (by simp;omega),cond_true]
        simp only [Option.bind_some,Sum.elim_inr]
        rw [show l++putL f.S.length++List.map (fun (b:UInt8)=>(((UInt8.toNat b):Nat):Int)) f.S=l++(putL f.S.length++byI f.S) by rw [List.append_assoc];rfl]
        exact ih _ (by simp [Zfa];omega)
      · have e2:encF1 f=none:=by unfold encF1;rw [if_neg hk1,if_neg h0]
        rw [show decide ((65536:Int)<((f.S.length:Nat):Int))=true from decide_eq_true (by omega),cond_true,e2]
        simp
theorem Zkz (list:List Zac) (hok:∀ f,f∈list→okF f) (hl:list.length≤1000):ZbM FF list=some (match encFs list with | some b=>(0,b) | none=>(1,[])):=by
  unfold ZbM
  rw [show (0:Int)=((0:Nat):Int) from rfl,Zh2 list hl list FF 0 [] (by simp) (by omega) hok (by show list.length<4000000;omega) (by simp [LIM];omega)]
  cases encFs list<;>simp [encR]
end Go.T
set_option linter.unusedVariables false
set_option linter.unusedSimpArgs false
namespace Go.T
open Go Go.Ab
theorem Zjy : ∀ (hi : List Int) (k y : Nat), hi.length ≤ k → (∀ z, z ∈ hi → 128 ≤ z ∧ z ≤ 255) → y < 128 → (hi ≠ [] → 0 < y) →
    ∃ v:Nat,putN k v=hi++[(y:Int)]∧v<(y+1) * 128 ^ hi.length∧(0<y→0<v)
  | [],k,y,_,_,hy,_=>by
    refine ⟨y,?_,by simp,fun h=>h⟩
    cases k with
    | zero=>simp [putN,Nat.mod_eq_of_lt (show y<256 by omega)]
    | succ k=>simp [putN,hy]
  | z::hi,k,y,hk,hz,hy,h0=>by
    obtain ⟨k,rfl⟩:∃ q,k=q+1:=⟨k - 1,by simp at hk;omega⟩
    have h0':=h0 (by simp)
    obtain ⟨v,h1,h2,h3⟩:=Zjy hi k y (by simpa using hk) (fun w hw=>hz w (List.mem_cons_of_mem _ hw)) hy (fun _=>h0')
    have hz0:=hz z List.mem_cons_self
    obtain ⟨c,rfl⟩:∃ c:Nat,z=((c+128:Nat):Int):=⟨(z - 128).toNat,by omega⟩
    have hv:=h3 h0'
    refine ⟨c+128 * v,?_,?_,fun _=>by omega⟩
    · rw [putN,if_neg (by omega),show (c+128 * v) % 128=c by omega,show (c+128 * v) / 128=v by omega,h1];rfl
    · rw [List.length_cons,Nat.pow_succ,← Nat.mul_assoc]
      omega
def Good (b:List Int) (i:Nat):Prop:=∃ (hi:List Int) (y:Nat) (r:List Int),b=hi++(y:Int)::r∧i+hi.length≤9∧(∀ z,z∈hi→128≤z∧z≤255)∧y<128∧(0<i+hi.length→0<y)∧(i+hi.length=9→y≤1)
theorem Good.num {b:List Int} (h:Good b 0):∃ (v:Nat) (r:List Int),v<18446744073709551616∧b=putL v++r:=by
  obtain ⟨hi,y,r,rfl,h1,h2,h3,h4,h5⟩:=h
  rw [Nat.zero_add] at h1 h4 h5
  obtain ⟨v,g1,g2,_⟩:=Zjy hi 9 y h1 h2 h3 (fun h=>h4 (List.length_pos_iff.2 h))
  refine ⟨v,r,?_,by unfold putL;rw [g1];simp⟩
  by_cases h9:hi.length=9
  · have:=h5 h9
    rw [h9] at g2
    have:(y+1) * 128 ^ 9≤2 * 128 ^ 9:=Nat.mul_le_mul_right _ (by omega)
    omega
  · have h8:128 ^ hi.length≤128 ^ 8:=Nat.pow_le_pow_right (by omega) (by omega)
    have:(y+1) * 128 ^ hi.length≤128 * 128 ^ 8:=Nat.mul_le_mul (by omega) h8
    omega
theorem ZfD:∀ (k v:Nat),v<128 ^ (k+1)→∃ (hi:List Int) (y:Nat),putN k v=hi++[(y:Int)]∧hi.length≤k∧(∀ z,z∈hi→128≤z∧z≤255)∧y<128∧(hi≠[]→0<v→0<y)∧(0<v→0<y)∧y * 128 ^ hi.length≤v
  | 0,v,h=>⟨[],v,by simp at h;simp [putN,Nat.mod_eq_of_lt (show v<256 by omega)],by simp,by simp,by simpa using h,by simp,fun h=>h,by simp⟩
  | k+1,v,h=>by
    by_cases hv:v<128
    · exact ⟨[],v,by simp [putN,hv],by simp,by simp,hv,by simp,fun h=>h,by simp⟩
    · obtain ⟨hi,y,h1,h2,h3,h4,h5,h6,h7⟩:=ZfD k (v / 128) (by rw [Nat.pow_succ] at h;omega)
      refine ⟨((v % 128+128:Nat):Int)::hi,y,by rw [putN,if_neg hv,h1];rfl,by simpa using h2,fun z hz=>?_,h4,fun _ _=>h6 (by omega),fun _=>h6 (by omega),?_⟩
      · rcases List.mem_cons.1 hz with rfl | hz
        · omega
        · exact h3 z hz
      · rw [List.length_cons,Nat.pow_succ,← Nat.mul_assoc]
        omega
theorem Zj6 (v:Nat) (h:v<18446744073709551616) (r:List Int):Good (putL v++r) 0:=by
  obtain ⟨hi,y,h1,h2,h3,h4,h5,h6,h7⟩:=ZfD 9 v (by omega)
  refine ⟨hi,y,r,by unfold putL;rw [h1];simp,by omega,h3,h4,fun h=>?_,fun h=>?_⟩
  · rw [Nat.zero_add] at h
    have hne:hi≠[]:=List.length_pos_iff.1 h
    rcases Nat.eq_zero_or_pos v with hv | hv
    · subst hv
      have:putN 9 0=[0]:=rfl
      rw [this] at h1
      cases hi with
      | nil=>exact absurd rfl hne
      | cons z hi=>simp at h1
    · exact h5 hne hv
  · rw [Nat.zero_add] at h
    rw [h] at h7
    have:(128:Nat) ^ 9=9223372036854775808:=by decide
    rw [this] at h7
    omega
theorem Zm7 (b : List Int) (hb : Byt b) : ∀ (k i x m : Nat), i + k = 9 → k < m → x < 18446744073709551616 →
    Good (b.drop i) i∨Zbc FF b m (x:Int) (i:Int)=some (.inl (0,0,21))∨Zbc FF b m (x:Int) (i:Int)=some (.inr ()):=by
  intro k
  induction k with
  | zero =>
    intro i x m hi hm hx
    obtain ⟨m,rfl⟩:∃ q,m=q+1:=⟨m - 1,by omega⟩
    rcases Nat.lt_or_ge i b.length with hl | hl
    · obtain ⟨y,hy,hy2⟩:=ZhF hb hl
      rw [Zfy b m i x y hy hx hy2 (by omega)]
      by_cases hc:(i=9∧1<y)∨(0<i∧y=0)
      · rw [if_pos hc];exact .inr (.inl rfl)
      · left
        exact ⟨[],y,b.drop (i+1),by rw [List.drop_eq_getElem_cons hl];rw [List.getElem?_eq_getElem hl] at hy;injection hy with hy;rw [hy];rfl,by simp;omega,by simp,by omega,fun _=>by omega,fun _=>by omega⟩
    · exact .inr (.inr (ZjS b m i x hl))
  | succ k ih =>
    intro i x m hi hm hx
    obtain ⟨m,rfl⟩:∃ q,m=q+1:=⟨m - 1,by omega⟩
    rcases Nat.lt_or_ge i b.length with hl | hl
    · obtain ⟨y,hy,hy2⟩:=ZhF hb hl
      have hdrop:b.drop i=(y:Int)::b.drop (i+1):=by rw [List.drop_eq_getElem_cons hl];rw [List.getElem?_eq_getElem hl] at hy;injection hy with hy;rw [hy]
      rw [Zfy b m i x y hy hx hy2 (by omega)]
      by_cases hc:(i=9∧1<y)∨(0<i∧y=0)
      · rw [if_pos hc];exact .inr (.inl rfl)
      · rw [if_neg hc]
        by_cases h128:y<128
        · left
          exact ⟨[],y,b.drop (i+1),hdrop,by simp;omega,by simp,h128,fun h=>by simp at h;omega,fun h=>by simp at h;omega⟩
        · rw [if_neg h128]
          rcases ih (i+1) (acc x y i) m (by omega) (by omega) (Zn0 x y i hx) with ⟨hi',y',r,g1,g2,g3,g4,g5,g6⟩ | e | e
          · left
            refine ⟨(y:Int)::hi',y',r,by rw [hdrop,g1];rfl,by simp;omega,fun z hz=>?_,g4,fun _=>g5 (by omega),fun h=>g6 (by simp at h;omega)⟩
            rcases List.mem_cons.1 hz with rfl | hz
            · omega
            · exact g3 z hz
          · exact .inr (.inl e)
          · exact .inr (.inr e)
    · exact .inr (.inr (ZjS b m i x hl))
theorem Zk4 (b:List Int) (hb:Byt b):(∃ (v:Nat) (r:List Int),v<18446744073709551616∧b=putL v++r∧Zdo FF b=some ((v:Int),((putL v).length:Int),0))∨(¬ Good b 0∧∃ e,e≠0∧Zdo FF b=some (0,0,e)):=by
  by_cases hg:Good b 0
  · obtain ⟨v,r,h1,h2⟩:=hg.num
    exact .inl ⟨v,r,h1,h2,by rw [h2];exact Zik v h1 r⟩
  · right
    refine ⟨hg,?_⟩
    rcases Zm7 b hb 9 0 0 FF rfl (by decide) (by decide) with h | e | e
    · exact absurd h hg
    · refine ⟨21,by decide,?_⟩
      unfold Zdo
      simp only [Int.natCast_zero] at e
      rw [e];rfl
    · refine ⟨20,by decide,?_⟩
      unfold Zdo
      simp only [Int.natCast_zero] at e
      rw [e];rfl
end Go.T
set_option linter.unusedVariables false
set_option linter.unusedSimpArgs false
namespace Go.T
open Go Go.Ab
def valB:List Int→Nat
  | []=>0
  | z::r=>(z % 128).toNat+128 * valB r
theorem ZjO:∀ (k v:Nat),v<128 ^ (k+1)→valB (putN k v)=v
  | 0,v,h=>by simp at h;simp [putN,valB];omega
  | k+1,v,h=>by
    by_cases hv:v<128
    · simp [putN,hv,valB];omega
    · rw [putN,if_neg hv,valB,ZjO k (v / 128) (by rw [Nat.pow_succ] at h;omega)]
      omega
theorem ZiN:∀ (l:List Int) (j:Nat),valB (l.drop j)≤valB l
  | [],j=>by simp [valB]
  | z::r,0=>Nat.le_refl _
  | z::r,j+1=>by
    have:=ZiN r j
    simp only [List.drop_succ_cons,valB]
    omega
theorem wi (n:Nat) (h:n<9223372036854775808):IntKind.wrap IntKind.i64 ((n:Nat):Int)=(n:Int):=by rw [IntKind.wrap_i64];omega
theorem wi1 (n:Nat) (h:n+1<9223372036854775808):IntKind.wrap IntKind.i64 (((n:Nat):Int)+1)=((n+1:Nat):Int):=by rw [IntKind.wrap_i64];omega
theorem Zne (b : List Int) (hb : Byt b) (hL : b.length ≤ LIM) (at_ : Nat) : ∀ (k j m : Nat), j + k = 10 → k + 1 < m → at_ + j ≤ b.length → j ≤ 9 →
    (ZaO FF b (at_:Int) m ((at_+j:Nat):Int)=some (.inl (0,0,21))∧∃ hi rest,b.drop (at_+j)=hi++rest∧(∀ z,z∈hi→128≤z∧z≤255)∧j+hi.length=10) ∨
    ∃ hi rest,b.drop (at_+j)=hi++rest∧(∀ z,z∈hi→128≤z∧z≤255)∧j+hi.length≤9∧(rest=[]∨∃ (y:Nat) (r:List Int),rest=(y:Int)::r∧y<128) ∧
      ZaO FF b (at_:Int) m ((at_+j:Nat):Int)=some (.inr ((at_+j+hi.length:Nat):Int)):=by
  intro k
  induction k with
  | zero=>intro j m h _ _ h9;omega
  | succ k ih =>
    intro j m hj hm hat h9
    obtain ⟨m,rfl⟩:∃ q,m=q+1:=⟨m - 1,by omega⟩
    unfold LIM at hL
    simp only [ZaO]
    rcases Nat.lt_or_ge (at_+j) b.length with hl | hl
    · obtain ⟨y,hy,hy2⟩:=ZhF hb hl
      have hdrop:b.drop (at_+j)=(y:Int)::b.drop (at_+j+1):=by rw [List.drop_eq_getElem_cons hl];rw [List.getElem?_eq_getElem hl] at hy;injection hy with hy;rw [hy]
      rw [show decide (((at_+j:Nat):Int)<(b.length:Int))=true from decide_eq_true (by omega),cond_true,
        show decide ((0:Int)≤((at_+j:Nat):Int))=true from decide_eq_true (by omega),cond_true,Int.toNat_natCast,hy]
      simp only [Option.bind_some]
      by_cases h128:y<128
      · rw [show decide ((127:Int)<(y:Int))=false from decide_eq_false (by omega),cond_false]
        exact .inr ⟨[],_,hdrop,by simp,by simpa using h9,.inr ⟨y,_,rfl,h128⟩,by simp⟩
      · rw [show decide ((127:Int)<(y:Int))=true from decide_eq_true (by omega),cond_true,wi1 _ (by omega)]
        have e:IntKind.wrap IntKind.i64 (((at_+j+1:Nat):Int) - (at_:Int))=((j+1:Nat):Int):=by rw [IntKind.wrap_i64];omega
        rw [e]
        by_cases hj9:j=9
        · rw [show decide ((9:Int)<((j+1:Nat):Int))=true from decide_eq_true (by omega),cond_true]
          refine .inl ⟨rfl,[(y:Int)],_,hdrop,fun z hz=>?_,by simp;omega⟩
          simp at hz;omega
        · rw [show decide ((9:Int)<((j+1:Nat):Int))=false from decide_eq_false (by omega),cond_false]
          rcases ih (j+1) m (by omega) (by omega) (by omega) (by omega) with ⟨h,hi,rest,g1,g2,g3⟩ | ⟨hi,rest,g1,g2,g3,g4,g5⟩
          · refine .inl ⟨h,(y:Int)::hi,rest,?_,fun z hz=>?_,by simp;omega⟩
            · rw [hdrop];rw [show at_+(j+1)=at_+j+1 by omega] at g1;rw [g1];rfl
            · rcases List.mem_cons.1 hz with rfl | hz
              · omega
              · exact g2 z hz
          · refine .inr ⟨(y:Int)::hi,rest,?_,fun z hz=>?_,by simp;omega,g4,?_⟩
            · rw [hdrop];rw [show at_+(j+1)=at_+j+1 by omega] at g1;rw [g1];rfl
            · rcases List.mem_cons.1 hz with rfl | hz
              · omega
              · exact g2 z hz
            · rw [show at_+j+1=at_+(j+1) by omega,g5]
              simp;omega
    · rw [show decide (((at_+j:Nat):Int)<(b.length:Int))=false from decide_eq_false (by omega),cond_false]
      simp only [Option.bind_some,cond_false]
      exact .inr ⟨[],[],by rw [List.drop_eq_nil_iff.2 hl];rfl,by simp,by simpa using h9,.inl rfl,by simp⟩
theorem Znd (b : List Int) (hb : Byt b) (hL : b.length ≤ LIM) (at_ : Nat) (hat : at_ ≤ b.length) : ∀ (k i m : Nat), i + k = b.length → k < m → at_ ≤ i →
    Zan FF b (at_:Int) (b.length:Int) m (i:Int)=some (.inl (0,0,21))∨Zan FF b (at_:Int) (b.length:Int) m (i:Int)=some (.inr ()):=by
  intro k
  induction k with
  | zero =>
    intro i m hi hm _
    obtain ⟨m,rfl⟩:∃ q,m=q+1:=⟨m - 1,by omega⟩
    simp only [Zan]
    rw [show decide ((i:Int)<(b.length:Int))=false from decide_eq_false (by omega),cond_false]
    exact .inr rfl
  | succ k ih =>
    intro i m hi hm hai
    obtain ⟨m,rfl⟩:∃ q,m=q+1:=⟨m - 1,by omega⟩
    unfold LIM at hL
    obtain ⟨y,hy,hy2⟩:=ZhF hb (show i<b.length by omega)
    simp only [Zan]
    rw [show decide ((i:Int)<(b.length:Int))=true from decide_eq_true (by omega),cond_true,
      show decide ((0:Int)≤(i:Int))=true from decide_eq_true (by omega),cond_true,Int.toNat_natCast,hy]
    simp only [Option.bind_some]
    have e:IntKind.wrap IntKind.i64 ((i:Int) - (at_:Int))=((i - at_:Nat):Int):=by rw [IntKind.wrap_i64];omega
    rw [e,wi1 i (by omega)]
    cases h1:((y:Int)==(0:Int)) with
    | true=>simp
    | false =>
      simp only [cond_false,Option.bind_some]
      cases h2:(((i - at_:Nat):Int)==(9:Int)) with
      | true=>simp
      | false=>simp only [cond_false];exact ih (i+1) m (by omega) (by omega) (by omega)
theorem Znc (b : List Int) (hb : Byt b) (hL : b.length ≤ LIM) (at_ : Nat) (u : List Int) (rest : List Int) (hd : b.drop at_ = u ++ rest) (hu : valB u < 18446744073709551616) : ∀ (j m : Nat), j ≤ u.length → j < m →
    ZaD FF b (at_:Int) m ((valB (u.drop j):Nat):Int) (((at_+j:Nat):Int) - 1)=some ((valB u:Nat):Int):=by
  intro j
  induction j with
  | zero =>
    intro m _ hm
    obtain ⟨m,rfl⟩:∃ q,m=q+1:=⟨m - 1,by omega⟩
    simp only [ZaD]
    rw [show decide ((at_:Int)≤((at_+0:Nat):Int) - 1)=false from decide_eq_false (by omega),cond_false]
    rfl
  | succ j ih =>
    intro m hj hm
    obtain ⟨m,rfl⟩:∃ q,m=q+1:=⟨m - 1,by omega⟩
    unfold LIM at hL
    have hbl:at_+u.length≤b.length:=by
      have:=congrArg List.length hd
      simp at this;omega
    have hg:b[at_+j]? = u[j]? := by
      have:=List.getElem?_drop (xs:=b) (i:=at_) (j:=j)
      rw [hd,List.getElem?_append_left (by omega)] at this
      exact this.symm
    obtain ⟨y,hy,hy2⟩:=ZhF hb (show at_+j<b.length by omega)
    rw [hy] at hg
    have hdr:u.drop j=(y:Int)::u.drop (j+1):=by
      rw [List.drop_eq_getElem_cons (by omega)]
      rw [List.getElem?_eq_getElem (by omega)] at hg
      injection hg with hg;rw [← hg]
    simp only [ZaD]
    have e0:((at_+(j+1):Nat):Int) - 1=((at_+j:Nat):Int):=by omega
    rw [e0,show decide ((at_:Int)≤((at_+j:Nat):Int))=true from decide_eq_true (by omega),cond_true,
      show decide ((0:Int)≤((at_+j:Nat):Int))=true from decide_eq_true (by omega),cond_true,Int.toNat_natCast,hy]
    simp only [Option.bind_some]
    have hv:valB (u.drop j)=y % 128+128 * valB (u.drop (j+1)):=by rw [hdr,valB];omega
    have hle:=ZiN u j
    have e1:IntKind.wrap IntKind.u64 ((IntKind.wrap IntKind.u64 (((valB (u.drop (j+1)):Nat):Int) * (128:Int)))+(@Int.tmod (IntKind.wrap IntKind.u64 (y:Int)) (128:Int)))=((valB (u.drop j):Nat):Int):=by
      have e2:IntKind.wrap IntKind.u64 (y:Int)=(y:Int):=by rw [IntKind.wrap_u64];omega
      rw [e2,Int.tmod_eq_emod_of_nonneg (by omega),IntKind.wrap_u64,IntKind.wrap_u64,hv]
      omega
    have e3:IntKind.wrap IntKind.i64 (((at_+j:Nat):Int) - 1)=((at_+j:Nat):Int) - 1:=by rw [IntKind.wrap_i64];omega
    rw [e1,e3]
    exact ih m (by omega) (by omega)
theorem Zmv {hi:List Int} {y:Nat} (h1:hi.length≤9) (h2:∀ z,z∈hi→128≤z∧z≤255) (h3:y<128) (h4:0<hi.length→0<y) (h5:hi.length=9→y≤1):∃ v:Nat,v<18446744073709551616∧putL v=hi++[(y:Int)]:=by
  obtain ⟨v,g1,g2,_⟩:=Zjy hi 9 y h1 h2 h3 (fun h=>h4 (List.length_pos_iff.2 h))
  refine ⟨v,?_,g1⟩
  by_cases h9:hi.length=9
  · have:=h5 h9
    rw [h9] at g2
    have:(y+1) * 128 ^ 9≤2 * 128 ^ 9:=Nat.mul_le_mul_right _ (by omega)
    omega
  · have h8:128 ^ hi.length≤128 ^ 8:=Nat.pow_le_pow_right (by omega) (by omega)
    have:(y+1) * 128 ^ hi.length≤128 * 128 ^ 8:=Nat.mul_le_mul (by omega) h8
    omega
theorem Zlj (b : List Int) (hb : Byt b) (hL : b.length ≤ 1048576) (at_ : Nat) (hat : at_ ≤ b.length) :
    (∃ (v:Nat) (r:List Int),v<18446744073709551616∧b.drop at_=putL v++r∧ZaK FF b (at_:Int)=some ((v:Int),((at_+(putL v).length:Nat):Int),0)) ∨
    (¬ Good (b.drop at_) 0∧∃ e,e≠0∧ZaK FF b (at_:Int)=some (0,0,e)):=by
  have hL':b.length≤LIM:=by unfold LIM;omega
  have h0:=Zne b hb hL' at_ 10 0 FF rfl (by decide) (by omega) (by omega)
  simp only [Nat.add_zero] at h0
  -- a number that stands there is no other
  have hnot:∀ hi rest,b.drop at_=hi++rest→(∀ z,z∈hi→128≤z∧z≤255)→Good (b.drop at_) 0→(10≤hi.length→False)∧(rest=[]→False)∧∀ (y:Nat) r,rest=(y:Int)::r→y<128→(0<hi.length→0<y)∧(hi.length=9→y≤1):=by
    rintro hi rest hd hh ⟨hi2,y2,r2,g1,g2,g3,g4,g5,g6⟩
    rw [hd] at g1
    rw [Nat.zero_add] at g2 g5 g6
    have hlen:∀ j,j<hi.length→j<hi2.length:=by
      intro j
      induction j with
      | zero =>
        intro h
        rcases Nat.eq_zero_or_pos hi2.length with h2 | h2
        · have:=congrArg (·[0]?) g1
          simp only [List.getElem?_append_left h] at this
          rw [List.getElem?_append_right (by omega),h2] at this
          simp only [Nat.sub_self,List.getElem?_cons_zero,List.getElem?_eq_getElem h,Option.some.injEq] at this
          have:=hh _ (List.getElem_mem h)
          omega
        · exact h2
      | succ j ih =>
        intro h
        have hj:=ih (by omega)
        rcases Nat.lt_or_ge (j+1) hi2.length with h2 | h2
        · exact h2
        · have:=congrArg (·[j+1]?) g1
          simp only [List.getElem?_append_left h] at this
          rw [List.getElem?_append_right (by omega),show j+1 - hi2.length=0 by omega] at this
          simp only [List.getElem?_cons_zero,List.getElem?_eq_getElem h,Option.some.injEq] at this
          have:=hh _ (List.getElem_mem h)
          omega
    have hle:hi.length≤hi2.length:=by
      rcases Nat.eq_zero_or_pos hi.length with h | h
      · omega
      · have:=hlen (hi.length - 1) (by omega);omega
    refine ⟨fun h=>by omega,fun h=>?_,fun y r h hy=>?_⟩
    · have:=congrArg List.length g1
      rw [h] at this;simp at this;omega
    · have heq:hi2.length=hi.length:=by
        rcases Nat.lt_or_ge hi.length hi2.length with h2 | h2
        · have this:(hi++rest)[hi.length]? = (hi2++(y2:Int)::r2)[hi.length]? := congrArg (fun l=>l[hi.length]?) g1
          rw [List.getElem?_append_right (Nat.le_refl _),Nat.sub_self,h,List.getElem?_append_left h2] at this
          simp only [List.getElem?_cons_zero,List.getElem?_eq_getElem h2,Option.some.injEq] at this
          have:=g3 _ (List.getElem_mem h2)
          omega
        · omega
      have:=List.append_inj_right g1 heq.symm
      rw [h] at this
      injection this with h1 _
      have:y=y2:=by omega
      subst this
      rw [heq] at g5 g6
      exact ⟨g5,g6⟩
  simp only [Nat.zero_add] at h0
  rcases h0 with ⟨h0,hi,rest,g1,g2,g3⟩ | ⟨hi,rest,g1,g2,g3,g4,g5⟩
  · refine .inr ⟨fun hg=>(hnot hi rest g1 g2 hg).1 (by omega),21,by decide,?_⟩
    unfold ZaK
    rw [h0];rfl
  · have hbl:at_+hi.length+rest.length=b.length:=by
      have:=congrArg List.length g1
      simp at this;omega
    rcases g4 with rfl | ⟨y,r,rfl,hy⟩
    · refine .inr ⟨fun hg=>(hnot hi [] g1 g2 hg).2.1 rfl,?_⟩
      simp only [List.length_nil,Nat.add_zero] at hbl
      unfold ZaK
      rw [g5]
      simp only [Option.bind_some,Sum.elim_inr]
      rw [hbl,show (((b.length:Nat):Int)==((b.length:Nat):Int))=true by simp,cond_true,wi1 at_ (by omega)]
      rcases Nat.lt_or_ge at_ b.length with hl | hl
      · rcases Znd b hb hL' at_ hat (b.length - (at_+1)) (at_+1) FF (by omega) (by show _<4000000;omega) (by omega) with e | e
        · exact ⟨21,by decide,by rw [e];rfl⟩
        · exact ⟨20,by decide,by rw [e];rfl⟩
      · refine ⟨20,by decide,?_⟩
        have e:Zan FF b (at_:Int) (b.length:Int) FF ((at_+1:Nat):Int)=some (.inr ()):=by
          show Zan FF b (at_:Int) (b.length:Int) (3999999+1) ((at_+1:Nat):Int)=_
          rw [Zan.eq_2]
          rw [show decide (((at_+1:Nat):Int)<(b.length:Int))=false from decide_eq_false (by omega),cond_false]
        rw [e];rfl
    · simp only [List.length_cons] at hbl
      have hend:b[at_+hi.length]? = some (y:Int):=by
        have:=List.getElem?_drop (xs:=b) (i:=at_) (j:=hi.length)
        rw [g1,List.getElem?_append_right (Nat.le_refl _),Nat.sub_self] at this
        simpa using this.symm
      have ed:IntKind.wrap IntKind.i64 (((at_+hi.length:Nat):Int) - (at_:Int))=((hi.length:Nat):Int):=by rw [IntKind.wrap_i64];omega
      have hne:((((at_+hi.length:Nat):Int)==((b.length:Nat):Int)))=false:=by
        have:((at_+hi.length:Nat):Int)≠((b.length:Nat):Int):=by omega
        simpa using this
      by_cases hbad:(0<hi.length∧y=0)∨(hi.length=9∧1<y)
      · refine .inr ⟨fun hg=>?_,21,by decide,?_⟩
        · obtain ⟨k1,k2⟩:=(hnot hi _ g1 g2 hg).2.2 y r rfl hy
          rcases hbad with ⟨h1,h2⟩ | ⟨h1,h2⟩
          · have:=k1 h1;omega
          · have:=k2 h1;omega
        · unfold ZaK
          rw [g5]
          simp only [Option.bind_some,Sum.elim_inr]
          have h0lt:0<hi.length:=by omega
          rw [hne,cond_false,show decide ((at_:Int)<((at_+hi.length:Nat):Int))=true from decide_eq_true (by omega),cond_true,
            show decide ((0:Int)≤((at_+hi.length:Nat):Int))=true from decide_eq_true (by omega),cond_true,Int.toNat_natCast,hend]
          simp only [Option.bind_some]
          by_cases hy0:y=0
          · subst hy0;rfl
          · have h9:hi.length=9∧1<y:=by omega
            rw [show ((y : Int) == (0 : Int)) = false by have : (y : Int) ≠ 0 := by omega
                                                         simpa using this,cond_false,ed,h9.1]
            rw [show (((9:Nat):Int)==(9:Int))=true from rfl,cond_true,cond_true]
            simp only [Option.bind_some]
            rw [show decide ((1:Int)<(y:Int))=true from decide_eq_true (by omega)]
            rfl
      · obtain ⟨v,hv,hpv⟩:=Zmv g3 g2 hy (fun h=>by omega) (fun h=>by omega)
        refine .inl ⟨v,r,hv,by rw [g1,hpv];simp,?_⟩
        have hul:(putL v).length=hi.length+1:=by rw [hpv];simp
        have hval:valB (putL v)=v:=ZjO 9 v (by omega)
        have hl2:=Znc b hb hL' at_ (putL v) r (by rw [g1,hpv];simp) (by rw [hval];exact hv) (putL v).length FF (Nat.le_refl _) (by rw [hul];show _<4000000;omega)
        rw [List.drop_length,hval,hul,show ((at_+(hi.length+1):Nat):Int) - 1=((at_+hi.length:Nat):Int) by omega] at hl2
        have hl2:ZaD FF b (at_:Int) FF (0:Int) ((at_+hi.length:Nat):Int)=some ((v:Nat):Int):=hl2
        unfold ZaK
        rw [g5]
        simp only [Option.bind_some,Sum.elim_inr]
        rw [hne,cond_false]
        have htest:(bif (decide ((at_:Int)<((at_+hi.length:Nat):Int))) then (bif decide ((0:Int)≤((at_+hi.length:Nat):Int)) then (Option.bind ((b)[(Int.toNat ((at_+hi.length:Nat):Int))]?) fun y_35=>(bif (y_35==(0:Int)) then (some true) else (bif ((IntKind.wrap IntKind.i64 (((at_+hi.length:Nat):Int) - (at_:Int)))==(9:Int)) then (bif decide ((0:Int)≤((at_+hi.length:Nat):Int)) then (Option.bind ((b)[(Int.toNat ((at_+hi.length:Nat):Int))]?) fun y_36=>(some (decide ((1:Int)<y_36)))) else none) else (some false)))) else none) else (bif ((IntKind.wrap IntKind.i64 (((at_+hi.length:Nat):Int) - (at_:Int)))==(9:Int)) then (bif decide ((0:Int)≤((at_+hi.length:Nat):Int)) then (Option.bind ((b)[(Int.toNat ((at_+hi.length:Nat):Int))]?) fun y_37=>(some (decide ((1:Int)<y_37)))) else none) else (some false)))=some false:=by
          rw [ed,Int.toNat_natCast,hend,show decide ((0:Int)≤((at_+hi.length:Nat):Int))=true from decide_eq_true (by omega)]
          simp only [cond_true,Option.bind_some]
          by_cases h0:0<hi.length
          · rw [show decide ((at_:Int)<((at_+hi.length:Nat):Int))=true from decide_eq_true (by omega),cond_true]
            rw [show ((y : Int) == (0 : Int)) = false by have : (y : Int) ≠ 0 := by omega
                                                         simpa using this,cond_false]
            by_cases h9:hi.length=9
            · rw [h9,show (((9:Nat):Int)==(9:Int))=true from rfl,cond_true,show decide ((1:Int)<(y:Int))=false from decide_eq_false (by omega)]
            · rw [show (((hi.length : Nat) : Int) == (9 : Int)) = false by have : ((hi.length : Nat) : Int) ≠ 9 := by omega
                                                                           simpa using this,cond_false]
          · rw [show decide ((at_:Int)<((at_+hi.length:Nat):Int))=false from decide_eq_false (by omega),cond_false]
            rw [show (((hi.length : Nat) : Int) == (9 : Int)) = false by have : ((hi.length : Nat) : Int) ≠ 9 := by omega
                                                                         simpa using this,cond_false]
        rw [htest]
        simp only [Option.bind_some,cond_false]
        rw [hl2]
        simp only [Option.bind_some]
        rw [wi1 _ (by omega),hul]
        congr 3
end Go.T
set_option linter.unusedVariables false
set_option linter.unusedSimpArgs false
namespace Go.T
open Go Go.Ab
def nf (k:Int) (f:Zac):Prop:=f.Kind=k∧((k=1∧0≤f.N∧f.N<9223372036854775808∧f.S=[])∨(k=3∧f.N=0∧f.S.length≤65536))
def nfs:List Int→List Zac→Prop
  | [],[]=>True
  | k::ks,f::fs=>nf k f∧nfs ks fs
  | _,_=>False
theorem Zi2 {k:Int} {f:Zac} (h:nf k f):(k=1∧encF1 f=some (putL f.N.toNat)∧f.N.toNat<9223372036854775808)∨(k=3∧encF1 f=some (putL f.S.length++byI f.S)∧f.S.length≤65536):=by
  obtain ⟨h1,⟨h2,h3,h4,_⟩ | ⟨h2,_,h3⟩⟩:=h
  · left;refine ⟨h2,?_,by omega⟩;unfold encF1;rw [if_pos (by omega),if_pos h3]
  · right;refine ⟨h2,?_,h3⟩;unfold encF1;rw [if_neg (by omega),if_pos h3]
theorem ZlZ:∀ {s t:List UInt8},byI s=byI t→s=t
  | [],[],_=>rfl
  | [],_::_,h=>by simp [byI] at h
  | _::_,[],h=>by simp [byI] at h
  | a::s,b::t,h=>by
    simp only [byI,List.map_cons,List.cons.injEq] at h
    obtain ⟨h1,h2⟩:=h
    have h1:a.toNat=b.toNat:=by omega
    rw [UInt8.toNat_inj.1 h1,ZlZ (s:=s) (t:=t) h2]
theorem Zir {v w:Nat} {r t:List Int} (hv:v<18446744073709551616) (hw:w<18446744073709551616) (h:putL v++r=putL w++t):v=w∧r=t:=by
  have h1:=Zik v hv r
  have h2:=Zik w hw t
  rw [h,h2] at h1
  simp only [Option.some.injEq,Prod.mk.injEq] at h1
  have e:v=w:=by omega
  subst e
  exact ⟨rfl,List.append_cancel_left h⟩
theorem Zkl {k:Int} {f g:Zac} {a c r t:List Int} (hf:nf k f) (hg:nf k g) (ha:encF1 f=some a) (hc:encF1 g=some c) (h:a++r=c++t):f=g∧r=t:=by
  rcases Zi2 hf with ⟨k1,e1,l1⟩ | ⟨k1,e1,l1⟩<;>rcases Zi2 hg with ⟨k2,e2,l2⟩ | ⟨k2,e2,l2⟩
  · rw [ha] at e1;injection e1 with e1;subst e1
    rw [hc] at e2;injection e2 with e2;subst e2
    obtain ⟨h1,h2⟩:=Zir (by omega) (by omega) h
    refine ⟨?_,h2⟩
    obtain ⟨q1,⟨_,q2,_,q3⟩ | ⟨q2,_⟩⟩:=hf<;>obtain ⟨q4,⟨_,q5,_,q6⟩ | ⟨q5,_⟩⟩:=hg
    · cases f;cases g
      simp only at q1 q2 q3 q4 q5 q6 h1
      simp only [Zac.mk.injEq]
      exact ⟨by omega,by omega,by rw [q3,q6]⟩
    all_goals omega
  · omega
  · omega
  · rw [ha] at e1;injection e1 with e1;subst e1
    rw [hc] at e2;injection e2 with e2;subst e2
    rw [List.append_assoc,List.append_assoc] at h
    obtain ⟨h1,h2⟩:=Zir (by omega) (by omega) h
    have h3:=List.append_inj h2 (by rw [Zfa,Zfa];exact h1)
    have h4:=ZlZ h3.1
    refine ⟨?_,h3.2⟩
    obtain ⟨q1,⟨q2,_⟩ | ⟨_,q2,_⟩⟩:=hf<;>obtain ⟨q4,⟨q5,_⟩ | ⟨_,q5,_⟩⟩:=hg
    case inr.inr =>
      cases f;cases g
      simp only at q1 q2 q4 q5 h4
      simp only [Zac.mk.injEq]
      exact ⟨by omega,by omega,h4⟩
    all_goals omega
theorem Zjh:∀ {ks:List Int} {fs gs:List Zac} {a c r t:List Int},nfs ks fs→nfs ks gs→encFs fs=some a→encFs gs=some c→a++r=c++t→fs=gs∧r=t
  | [],[],[],a,c,r,t,_,_,ha,hc,h=>by
    simp [encFs] at ha hc;subst ha;subst hc;exact ⟨rfl,by simpa using h⟩
  | k::ks,f::fs,g::gs,a,c,r,t,hf,hg,ha,hc,h=>by
    simp only [encFs] at ha hc
    cases h1:encF1 f with
    | none=>rw [h1] at ha;cases ha
    | some a1 =>
      cases h2:encF1 g with
      | none=>rw [h2] at hc;cases hc
      | some c1 =>
        rw [h1] at ha;rw [h2] at hc
        cases h3:encFs fs with
        | none=>rw [h3] at ha;cases ha
        | some a2 =>
          cases h4:encFs gs with
          | none=>rw [h4] at hc;cases hc
          | some c2 =>
            rw [h3] at ha;rw [h4] at hc
            simp only [Option.map_some,Option.some.injEq] at ha hc
            subst ha;subst hc
            rw [List.append_assoc,List.append_assoc] at h
            obtain ⟨e1,e2⟩:=Zkl hf.1 hg.1 h1 h2 h
            obtain ⟨e3,e4⟩:=Zjh hf.2 hg.2 h3 h4 e2
            exact ⟨by rw [e1,e3],e4⟩
  | [],[],_::_,_,_,_,_,_,h,_,_,_=>h.elim
  | [],_::_,_,_,_,_,_,h,_,_,_,_=>h.elim
  | _::_,[],_,_,_,_,_,h,_,_,_,_=>h.elim
  | _::_,_::_,[],_,_,_,_,_,h,_,_,_=>h.elim
theorem Zhe (s:List UInt8):toBytes (byI s)=s:=by
  induction s with
  | nil=>rfl
  | cons a s ih =>
    simp only [toBytes,byI,List.map_cons] at ih ⊢
    rw [ih]
    simp
theorem Ze9 {l:List Int} (h:Byt l):ZdY l=true:=by
  unfold ZdY
  rw [List.all_eq_true]
  intro y hy
  have:=h y hy
  simp only [Bool.and_eq_true,decide_eq_true_eq];omega
theorem ZhG {l:List Int} (h:Byt l):byI (toBytes l)=l:=by
  induction l with
  | nil=>rfl
  | cons a l ih =>
    have ha:=h a List.mem_cons_self
    have ih:=ih (fun y hy=>h y (List.mem_cons_of_mem _ hy))
    simp only [toBytes,byI,List.map_cons] at ih ⊢
    rw [ih]
    congr 1
    simp only [UInt8.toNat_ofNat']
    omega
def Fld (k:Int) (b:List Int) (f:Zac) (r:List Int):Prop:=nf k f∧∃ a,encF1 f=some a∧b=a++r
theorem Zeh {k:Int} {b:List Int} (h:¬ Good b 0) (f:Zac) (r:List Int):¬ Fld k b f r:=by
  rintro ⟨hf,a,ha,rfl⟩
  rcases Zi2 hf with ⟨_,e,l⟩ | ⟨_,e,l⟩
  · rw [ha] at e;injection e with e;subst e
    exact h (Zj6 _ (by omega) r)
  · rw [ha] at e;injection e with e;subst e
    rw [List.append_assoc] at h
    exact h (Zj6 _ (by omega) _)
theorem ZiA {b:List Int} {v:Nat} {r:List Int} (hv:v<18446744073709551616) (hb:b=putL v++r):(v<9223372036854775808→Fld 1 b (Zac.mk 1 (v:Int) []) r)∧(9223372036854775808≤v→∀ f t,¬ Fld 1 b f t):=by
  constructor
  · intro h
    refine ⟨⟨rfl,.inl ⟨rfl,by simp only;omega,by simp only;omega,rfl⟩⟩,putL v,?_,hb⟩
    unfold encF1;rw [if_pos rfl,if_pos (by simp only;omega)];simp
  · rintro h f t ⟨hf,a,ha,hb2⟩
    rcases Zi2 hf with ⟨_,e,l⟩ | ⟨e,_⟩
    · rw [ha] at e;injection e with e;subst e
      have:=(Zir hv (by omega) (hb.symm.trans hb2)).1
      omega
    · omega
theorem Byt.right2 {a b:List Int} (h:Byt (a++b)):Byt b:=fun y hy=>h y (List.mem_append.2 (.inr hy))
theorem Byt.take2 {a:List Int} (h:Byt a) (n:Nat):Byt (a.take n):=fun y hy=>h y (List.mem_of_mem_take hy)
theorem Byt.drop2 {a:List Int} (h:Byt a) (n:Nat):Byt (a.drop n):=fun y hy=>h y (List.mem_of_mem_drop hy)
theorem ZfS {b : List Int} {n : Nat} {r : List Int} (hbt : Byt b) (hn : n < 18446744073709551616) (hb : b = putL n ++ r) :
    (n≤65536→n≤r.length→Fld 3 b (Zac.mk 3 0 (toBytes (r.take n))) (r.drop n))∧(65536<n∨r.length<n→∀ f t,¬ Fld 3 b f t):=by
  have hr:Byt r:=Byt.right2 (a:=putL n) (hb▸hbt)
  constructor
  · intro h1 h2
    have hl:(toBytes (r.take n)).length=n:=by simp [toBytes];omega
    refine ⟨⟨rfl,.inr ⟨rfl,rfl,by simp only;omega⟩⟩,putL n++r.take n,?_,by rw [hb,List.append_assoc,List.take_append_drop]⟩
    unfold encF1;rw [if_neg (by simp only;decide),if_pos (by simp only;omega)]
    simp only
    rw [hl,ZhG (Byt.take2 hr n)]
  · rintro h f t ⟨hf,a,ha,hb2⟩
    rcases Zi2 hf with ⟨e,_⟩ | ⟨_,e,l⟩
    · omega
    · rw [ha] at e;injection e with e;subst e
      rw [List.append_assoc] at hb2
      obtain ⟨h1,h2⟩:=Zir hn (by omega) (hb.symm.trans hb2)
      have:=congrArg List.length h2
      simp [Zfa] at this
      omega
theorem fd63 (v:Nat) (h:v<18446744073709551616):((@Int.fdiv (v:Int) ((2:Int) ^ (min (Int.toNat (63:Int)) 64))) != (0:Int))=decide (9223372036854775808≤v):=by
  have e:Int.fdiv (v:Int) ((2:Int) ^ (min (Int.toNat 63) 64))=((v / 9223372036854775808:Nat):Int):=by
    show Int.fdiv (v:Int) 9223372036854775808=_
    rw [Int.fdiv_eq_ediv_of_nonneg _ (by omega)];omega
  rw [e]
  by_cases hv:9223372036854775808≤v
  · rw [decide_eq_true hv]
    have:((v / 9223372036854775808:Nat):Int)≠0:=by omega
    simpa using this
  · rw [decide_eq_false hv]
    have:((v / 9223372036854775808:Nat):Int)=0:=by omega
    rw [this];rfl
theorem ZkN (k : Int) (hk : k = 1 ∨ k = 3) (b : List Int) (hb : Byt b) (hL : b.length ≤ 1073741824) :
    (∃ f r,Fld k b f r∧ZdG FF k b=some (f,((b.length - r.length:Nat):Int),0))∨((∀ f r,¬ Fld k b f r)∧∃ f s e,e≠0∧ZdG FF k b=some (f,s,e)):=by
  rcases Zk4 b hb with ⟨v,r,hv,hbr,ht⟩ | ⟨hg,e,he,ht⟩
  · have hlen:b.length=(putL v).length+r.length:=by rw [hbr];simp
    have hp:=ZbL v
    unfold ZdG
    rcases hk with rfl | rfl
    · simp only [show ((1:Int) != (1:Int))=false from rfl,cond_false,Option.bind_some,ht,show ((0:Int) != (0:Int))=false from rfl,show ((1:Int)==(1:Int))=true from rfl,cond_true,fd63 v hv]
      by_cases h63:9223372036854775808≤v
      · rw [decide_eq_true h63]
        simp only [cond_true,Option.bind_some,Sum.elim_inl]
        exact .inr ⟨(ZiA hv hbr).2 h63,_,_,21,by decide,rfl⟩
      · rw [decide_eq_false h63]
        simp only [cond_false,Option.bind_some,Sum.elim_inr]
        refine .inl ⟨_,r,(ZiA hv hbr).1 (by omega),?_⟩
        rw [wi v (by omega),hlen,Nat.add_sub_cancel]
    · simp only [show ((3 : Int) != (1 : Int)) = true from rfl, show ((3 : Int) != (2 : Int)) = true from rfl, show ((3 : Int) != (3 : Int)) = false from rfl, cond_false, cond_true, Option.bind_some, ht, show ((0 : Int) != (0 : Int)) = false from rfl,
        show ((3:Int)==(1:Int))=false from rfl,show ((3:Int)==(2:Int))=false from rfl]
      by_cases h1:65536<v
      · rw [show decide ((65536:Int)<(v:Int))=true from decide_eq_true (by omega)]
        simp only [cond_true,Option.bind_some,Sum.elim_inl]
        exact .inr ⟨(ZfS hb hv hbr).2 (.inl h1),_,_,21,by decide,rfl⟩
      · rw [show decide ((65536:Int)<(v:Int))=false from decide_eq_false (by omega),cond_false]
        have e1:IntKind.wrap IntKind.i64 (((b.length:Nat):Int) - (((putL v).length:Nat):Int))=((r.length:Nat):Int):=by rw [IntKind.wrap_i64];omega
        have e2:IntKind.wrap IntKind.i64 ((((putL v).length:Nat):Int)+(v:Int))=(((putL v).length+v:Nat):Int):=by rw [IntKind.wrap_i64];omega
        rw [e1,wi v (by omega),e2]
        by_cases h2:r.length<v
        · rw [show decide (((r.length:Nat):Int)<(v:Int))=true from decide_eq_true (by omega)]
          simp only [cond_true,Option.bind_some,Sum.elim_inl]
          exact .inr ⟨(ZfS hb hv hbr).2 (.inr h2),_,_,20,by decide,rfl⟩
        · rw [show decide (((r.length:Nat):Int)<(v:Int))=false from decide_eq_false (by omega),cond_false,Int.toNat_natCast,Int.toNat_natCast]
          have hcut:List.drop (putL v).length (List.take ((putL v).length+v) b)=r.take v:=by
            rw [hbr,List.take_append,List.take_of_length_le (by omega),Nat.add_sub_cancel_left,List.drop_append,List.drop_length,Nat.sub_self,List.drop_zero];rfl
          have hrb:Byt (r.take v):=Byt.take2 (Byt.right2 (a:=putL v) (hbr▸hb)) v
          rw [show decide ((0:Int)≤(((putL v).length:Nat):Int))=true from decide_eq_true (by omega),show decide ((0:Int)≤(((putL v).length+v:Nat):Int))=true from decide_eq_true (by omega),
            show decide ((putL v).length≤(putL v).length+v)=true from decide_eq_true (by omega),show decide ((putL v).length+v≤b.length)=true from decide_eq_true (by omega),hcut,Ze9 hrb]
          simp only [cond_true,Option.bind_some,Sum.elim_inr]
          refine .inl ⟨_,r.drop v,(ZfS hb hv hbr).1 (by omega) (by omega),?_⟩
          rw [List.length_drop,show b.length - (r.length - v)=(putL v).length+v by omega]
  · right
    refine ⟨Zeh hg,?_⟩
    unfold ZdG
    have e1:(e != (0:Int))=true:=by simpa using he
    rcases hk with rfl | rfl
    · simp only [show ((1:Int) != (1:Int))=false from rfl,cond_false,Option.bind_some,ht,e1,cond_true]
      exact ⟨_,_,e,he,rfl⟩
    · simp only [show ((3:Int) != (1:Int))=true from rfl,show ((3:Int) != (2:Int))=true from rfl,show ((3:Int) != (3:Int))=false from rfl,cond_false,cond_true,Option.bind_some,ht,e1]
      exact ⟨_,_,e,he,rfl⟩
end Go.T
set_option linter.unusedVariables false
set_option linter.unusedSimpArgs false
namespace Go.T
open Go Go.Ab
def Flds (ks:List Int) (b:List Int) (fs:List Zac) (r:List Int):Prop:=nfs ks fs∧∃ a,encFs fs=some a∧b=a++r
theorem Zkg (b:List Int):Flds [] b [] b:=⟨trivial,[],rfl,rfl⟩
theorem Zjc {k:Int} {ks b:List Int} {f:Zac} {fs:List Zac} {t r:List Int} (h1:Fld k b f t) (h2:Flds ks t fs r):Flds (k::ks) b (f::fs) r:=by
  obtain ⟨hf,a,ha,rfl⟩:=h1
  obtain ⟨hg,c,hc,rfl⟩:=h2
  refine ⟨⟨hf,hg⟩,a++c,?_,(List.append_assoc a c r).symm⟩
  simp [encFs,ha,hc]
theorem Ze5 {k:Int} {ks b:List Int} {gs:List Zac} {r:List Int} (h:Flds (k::ks) b gs r):∃ f fs t,gs=f::fs∧Fld k b f t∧Flds ks t fs r:=by
  obtain ⟨hn,a,ha,rfl⟩:=h
  cases gs with
  | nil=>exact hn.elim
  | cons f fs =>
    simp only [encFs] at ha
    cases h1:encF1 f with
    | none=>rw [h1] at ha;cases ha
    | some a1 =>
      rw [h1] at ha
      cases h2:encFs fs with
      | none=>rw [h2] at ha;cases ha
      | some a2 =>
        rw [h2] at ha
        simp only [Option.map_some,Option.some.injEq] at ha
        subst ha
        exact ⟨f,fs,a2++r,rfl,⟨hn.1,a1,h1,List.append_assoc a1 a2 r⟩,hn.2,a2,h2,rfl⟩
theorem Zkh {k:Int} {b:List Int} {f g:Zac} {r t:List Int} (h1:Fld k b f r) (h2:Fld k b g t):f=g∧r=t:=by
  obtain ⟨hf,a,ha,e⟩:=h1
  obtain ⟨hg,c,hc,e2⟩:=h2
  exact Zkl hf hg ha hc (e.symm.trans e2)
theorem ZlQ {k:Int} {b:List Int} {f:Zac} {r:List Int} (h:Fld k b f r):b.drop (b.length - r.length)=r∧r.length≤b.length:=by
  obtain ⟨_,a,_,rfl⟩:=h
  have e:(a++r).length - r.length=a.length:=by simp
  rw [e];simp
theorem ZfG {ks b:List Int} {fs gs:List Zac} {r t:List Int} (h1:Flds ks b fs r) (h2:Flds ks b gs t):fs=gs∧r=t:=by
  obtain ⟨hf,a,ha,e⟩:=h1
  obtain ⟨hg,c,hc,e2⟩:=h2
  exact Zjh hf hg ha hc (e.symm.trans e2)
theorem Zjm (kinds : List Int) (hK : kinds.length ≤ 1000) : ∀ (ks b : List Int) (m i : Nat) (l : List Zac), kinds.drop i = ks → i + ks.length = kinds.length → (∀ k, k ∈ ks → k = 1 ∨ k = 3) → Byt b → b.length ≤ 1073741824 → ks.length < m → l.length + ks.length ≤ 1000 →
    (∃ fs r,Flds ks b fs r∧Za8 FF kinds m b (i:Int) l=some (.inr (r,l++fs)))∨((∀ fs r,¬ Flds ks b fs r)∧∃ e,e≠0∧Za8 FF kinds m b (i:Int) l=some (.inl (e,[])))
  | [],b,m,i,l,hd,hi,hk,hb,hL,hm,hl=>by
    obtain ⟨m,rfl⟩:∃ q,m=q+1:=⟨m - 1,by omega⟩
    simp only [List.length_nil] at hi
    refine .inl ⟨[],b,Zkg b,?_⟩
    simp only [Za8]
    rw [show decide ((i:Int)<(kinds.length:Int))=false from decide_eq_false (by omega),cond_false]
    simp
  | k::ks,b,m,i,l,hd,hi,hk,hb,hL,hm,hl=>by
    obtain ⟨m,rfl⟩:∃ q,m=q+1:=⟨m - 1,by omega⟩
    simp only [List.length_cons] at hi hm hl
    have hf:kinds[i]? = some k:=by
      have:=List.getElem?_drop (xs:=kinds) (i:=i) (j:=0)
      rw [hd] at this;simpa using this.symm
    have hd':kinds.drop (i+1)=ks:=by rw [← List.drop_drop,hd];rfl
    simp only [Za8]
    rw [show decide ((i:Int)<(kinds.length:Int))=true from decide_eq_true (by omega),cond_true,show decide ((0:Int)≤(i:Int))=true from decide_eq_true (by omega),cond_true,Int.toNat_natCast,hf]
    simp only [Option.bind_some]
    rcases ZkN k (hk k List.mem_cons_self) b hb hL with ⟨f,r,h1,h2⟩ | ⟨h1,f,s,e,he,h2⟩
    · obtain ⟨hs,hle⟩:=ZlQ h1
      rw [h2]
      simp only [Option.bind_some,show ((0:Int) != (0:Int))=false from rfl,cond_false]
      rw [show decide (l.length+1≤LIM)=true from decide_eq_true (by unfold LIM;omega),cond_true,show decide ((0:Int)≤((b.length - r.length:Nat):Int))=true from decide_eq_true (by omega),cond_true,Int.toNat_natCast,
        show decide (b.length - r.length≤b.length)=true from decide_eq_true (by omega),cond_true,show decide (b.length≤b.length)=true from decide_eq_true (by omega),cond_true,hs,wi1 _ (by omega)]
      have hbr:Byt r:=by rw [← hs];exact Byt.drop2 hb _
      rcases Zjm kinds hK ks r m (i+1) (l++[f]) hd' (by omega) (fun k h=>hk k (List.mem_cons_of_mem _ h)) hbr (by omega) (by omega) (by simp;omega) with ⟨fs,t,h3,h4⟩ | ⟨h3,e,he,h4⟩
      · exact .inl ⟨f::fs,t,Zjc h1 h3,by rw [h4];simp⟩
      · refine .inr ⟨fun gs t h=>?_,e,he,h4⟩
        obtain ⟨g,gs',t',rfl,q1,q2⟩:=Ze5 h
        obtain ⟨-,rfl⟩:=Zkh h1 q1
        exact h3 _ _ q2
    · rw [h2]
      simp only [Option.bind_some,show (e != (0:Int))=true by simpa using he,cond_true]
      refine .inr ⟨fun gs t h=>?_,e,he,rfl⟩
      obtain ⟨g,gs',t',rfl,q1,q2⟩:=Ze5 h
      exact h1 _ _ q1
theorem ZjI (ks b : List Int) (hK : ks.length ≤ 1000) (hk : ∀ k, k ∈ ks → k = 1 ∨ k = 3) (hb : Byt b) (hL : b.length ≤ 1073741824) :
    (∃ fs,Flds ks b fs []∧ZcY FF ks b=some (0,fs))∨((∀ fs,¬ Flds ks b fs [])∧∃ e,e≠0∧ZcY FF ks b=some (e,[])):=by
  unfold ZcY
  rcases Zjm ks hK ks b FF 0 [] (by simp) (by simp) hk hb hL (by rw [show FF=1048577+1+(FF - 1048578) from by decide];omega) (by simpa using hK) with ⟨fs,r,h1,h2⟩ | ⟨h1,e,he,h2⟩
  · rw [show ((0:Nat):Int)=0 from rfl] at h2
    rw [h2]
    simp only [Option.bind_some,Sum.elim_inr,List.nil_append]
    cases r with
    | nil=>exact .inl ⟨fs,h1,by simp⟩
    | cons y r =>
      refine .inr ⟨fun gs h=>?_,21,by decide,?_⟩
      · obtain ⟨-,h⟩:=ZfG h1 h;cases h
      · rw [show decide ((0:Int)<((y::r).length:Int))=true from decide_eq_true (by simp),cond_true]
  · rw [show ((0:Nat):Int)=0 from rfl] at h2
    rw [h2]
    exact .inr ⟨fun gs h=>h1 _ _ h,e,he,rfl⟩
theorem Zh3 (kinds b : List Int) (hb : Byt b) (hL : b.length ≤ 1048576) (hK : kinds.length ≤ 1000) : ∀ (ks : List Int) (m at_ i : Nat) (l : List Zac), kinds.drop i = ks → i + ks.length = kinds.length → (∀ k, k ∈ ks → k = 1 ∨ k = 3) → at_ ≤ b.length → ks.length < m → l.length + ks.length ≤ 1000 →
    (∃ fs r,Flds ks (b.drop at_) fs r∧Zar FF kinds b m (at_:Int) (i:Int) l=some (.inr (((b.length - r.length:Nat):Int),l++fs)))∨((∀ fs r,¬ Flds ks (b.drop at_) fs r)∧∃ e,e≠0∧Zar FF kinds b m (at_:Int) (i:Int) l=some (.inl (e,[])))
  | [],m,at_,i,l,hd,hi,hk,hat,hm,hl=>by
    obtain ⟨m,rfl⟩:∃ q,m=q+1:=⟨m - 1,by omega⟩
    simp only [List.length_nil] at hi
    refine .inl ⟨[],b.drop at_,Zkg _,?_⟩
    simp only [Zar]
    rw [show decide ((i:Int)<(kinds.length:Int))=false from decide_eq_false (by omega),cond_false,List.length_drop,show b.length - (b.length - at_)=at_ by omega]
    simp
  | k::ks,m,at_,i,l,hd,hi,hk,hat,hm,hl=>by
    obtain ⟨m,rfl⟩:∃ q,m=q+1:=⟨m - 1,by omega⟩
    simp only [List.length_cons] at hi hm hl
    have hf:kinds[i]? = some k:=by
      have:=List.getElem?_drop (xs:=kinds) (i:=i) (j:=0)
      rw [hd] at this;simpa using this.symm
    have hd':kinds.drop (i+1)=ks:=by rw [← List.drop_drop,hd];rfl
    have hk1:=hk k List.mem_cons_self
    have hbd:Byt (b.drop at_):=Byt.drop2 hb _
    -- what comes behind one field
    have next : ∀ (f : Zac) (r : List Int), Fld k (b.drop at_) f r →
        (∃ fs t,Flds (k::ks) (b.drop at_) fs t∧Zar FF kinds b m ((b.length - r.length:Nat):Int) ((i+1:Nat):Int) (l++[f])=some (.inr (((b.length - t.length:Nat):Int),l++fs)))∨((∀ fs t,¬ Flds (k::ks) (b.drop at_) fs t)∧∃ e,e≠0∧Zar FF kinds b m ((b.length - r.length:Nat):Int) ((i+1:Nat):Int) (l++[f])=some (.inl (e,[]))):=by
      intro f r h1
      obtain ⟨hs,hle⟩:=ZlQ h1
      rw [List.length_drop] at hs hle
      have hr:b.drop (b.length - r.length)=r:=by
        rw [List.drop_drop] at hs
        rw [show b.length - r.length=at_+(b.length - at_ - r.length) by omega];exact hs
      rcases Zh3 kinds b hb hL hK ks m (b.length - r.length) (i+1) (l++[f]) hd' (by omega) (fun k h=>hk k (List.mem_cons_of_mem _ h)) (by omega) (by omega) (by simp;omega) with ⟨fs,t,h3,h4⟩ | ⟨h3,e,he,h4⟩
      · rw [hr] at h3
        exact .inl ⟨f::fs,t,Zjc h1 h3,by rw [h4];simp⟩
      · rw [hr] at h3
        refine .inr ⟨fun gs t h=>?_,e,he,h4⟩
        obtain ⟨g,gs',t',rfl,q1,q2⟩:=Ze5 h
        obtain ⟨-,rfl⟩:=Zkh h1 q1
        exact h3 _ _ q2
    have stop:(∀ f r,¬ Fld k (b.drop at_) f r)→∀ fs r,¬ Flds (k::ks) (b.drop at_) fs r:=by
      intro h gs t h2
      obtain ⟨g,gs',t',rfl,q1,q2⟩:=Ze5 h2
      exact h _ _ q1
    simp only [Zar]
    rw [show decide ((i:Int)<(kinds.length:Int))=true from decide_eq_true (by omega),cond_true,show decide ((0:Int)≤(i:Int))=true from decide_eq_true (by omega),cond_true,Int.toNat_natCast,hf]
    simp only [Option.bind_some]
    rw [show decide (k<(1:Int))=false from decide_eq_false (by omega),cond_false,show decide ((3:Int)<k)=false from decide_eq_false (by omega)]
    simp only [Option.bind_some,cond_false]
    rcases Zlj b hb hL at_ hat with ⟨v,r,hv,hbr,ht⟩ | ⟨hg,e,he,ht⟩
    · have hlen:=congrArg List.length hbr
      rw [List.length_drop,List.length_append] at hlen
      have hp:=ZbL v
      rw [ht]
      simp only [Option.bind_some,show ((0:Int) != (0:Int))=false from rfl,cond_false]
      rcases hk1 with rfl | rfl
      · simp only [show ((1:Int)==(1:Int))=true from rfl,cond_true]
        by_cases h63:9223372036854775808≤v
        · rw [show decide ((9223372036854775807:Int)<(v:Int))=true from decide_eq_true (by omega),cond_true]
          simp only [Option.bind_some,Sum.elim_inl]
          exact .inr ⟨stop ((ZiA hv hbr).2 h63),21,by decide,rfl⟩
        · rw [show decide ((9223372036854775807:Int)<(v:Int))=false from decide_eq_false (by omega),cond_false]
          simp only [Option.bind_some,Sum.elim_inr]
          rw [show decide (l.length+1≤LIM)=true from decide_eq_true (by unfold LIM;omega),cond_true,wi v (by omega),wi1 _ (by omega),show at_+(putL v).length=b.length - r.length by omega]
          exact next _ r ((ZiA hv hbr).1 (by omega))
      · simp only [show ((3:Int)==(1:Int))=false from rfl,show ((3:Int)==(2:Int))=false from rfl,show ((3:Int)==(3:Int))=true from rfl,cond_true,cond_false]
        by_cases h1:65536<v
        · rw [show decide ((65536:Int)<(v:Int))=true from decide_eq_true (by omega),cond_true]
          simp only [Option.bind_some,Sum.elim_inl]
          exact .inr ⟨stop ((ZfS hbd hv hbr).2 (.inl h1)),21,by decide,rfl⟩
        · rw [show decide ((65536:Int)<(v:Int))=false from decide_eq_false (by omega),cond_false]
          have e1:IntKind.wrap IntKind.i64 (((b.length:Nat):Int) - ((at_+(putL v).length:Nat):Int))=((r.length:Nat):Int):=by rw [IntKind.wrap_i64];omega
          have e2:IntKind.wrap IntKind.i64 (((at_+(putL v).length:Nat):Int)+(v:Int))=((at_+(putL v).length+v:Nat):Int):=by rw [IntKind.wrap_i64];omega
          rw [e1,wi v (by omega),e2]
          by_cases h2:r.length<v
          · rw [show decide (((r.length:Nat):Int)<(v:Int))=true from decide_eq_true (by omega),cond_true]
            simp only [Option.bind_some,Sum.elim_inl]
            exact .inr ⟨stop ((ZfS hbd hv hbr).2 (.inr h2)),20,by decide,rfl⟩
          · rw [show decide (((r.length:Nat):Int)<(v:Int))=false from decide_eq_false (by omega),cond_false,Int.toNat_natCast,Int.toNat_natCast]
            have hcut:List.drop (at_+(putL v).length) (List.take (at_+(putL v).length+v) b)=r.take v:=by
              rw [List.drop_take,show at_+(putL v).length+v - (at_+(putL v).length)=v by omega,← List.drop_drop,hbr,List.drop_left]
            have hrb:Byt (r.take v):=Byt.take2 (Byt.right2 (a:=putL v) (hbr▸hbd)) v
            rw [show decide ((0:Int)≤((at_+(putL v).length:Nat):Int))=true from decide_eq_true (by omega),show decide ((0:Int)≤((at_+(putL v).length+v:Nat):Int))=true from decide_eq_true (by omega),
              show decide (at_+(putL v).length≤at_+(putL v).length+v)=true from decide_eq_true (by omega),show decide (at_+(putL v).length+v≤b.length)=true from decide_eq_true (by omega),hcut,Ze9 hrb]
            simp only [cond_true,Option.bind_some,Sum.elim_inr]
            rw [show decide (l.length+1≤LIM)=true from decide_eq_true (by unfold LIM;omega),cond_true,wi1 _ (by omega),
              show at_+(putL v).length+v=b.length - (r.drop v).length by rw [List.length_drop];omega]
            exact next _ (r.drop v) ((ZfS hbd hv hbr).1 (by omega) (by omega))
    · rw [ht]
      simp only [Option.bind_some,show (e != (0:Int))=true by simpa using he,cond_true]
      exact .inr ⟨stop (Zeh hg),e,he,rfl⟩
theorem ZiR (ks b : List Int) (hK : ks.length ≤ 1000) (hk : ∀ k, k ∈ ks → k = 1 ∨ k = 3) (hb : Byt b) (hL : b.length ≤ 1048576) :
    (∃ fs,Flds ks b fs []∧Zbl FF ks b=some (0,fs))∨((∀ fs,¬ Flds ks b fs [])∧∃ e,e≠0∧Zbl FF ks b=some (e,[])):=by
  unfold Zbl
  rcases Zh3 ks b hb hL hK ks FF 0 0 [] (by simp) (by simp) hk (by omega) (by rw [show FF=1048577+1+(FF - 1048578) from by decide];omega) (by simpa using hK) with ⟨fs,r,h1,h2⟩ | ⟨h1,e,he,h2⟩
  · rw [show ((0:Nat):Int)=0 from rfl] at h2
    rw [List.drop_zero] at h1
    rw [h2]
    simp only [Option.bind_some,Sum.elim_inr,List.nil_append]
    cases r with
    | nil=>exact .inl ⟨fs,h1,by simp⟩
    | cons y r =>
      have hle:(y::r).length≤b.length:=by obtain ⟨_,a,_,e⟩:=h1;rw [e];simp
      refine .inr ⟨fun gs h=>?_,21,by decide,?_⟩
      · obtain ⟨-,h⟩:=ZfG h1 h;cases h
      · rw [show decide ((((b.length - (y::r).length:Nat)):Int)<(b.length:Int))=true from decide_eq_true (by simp only [List.length_cons] at hle ⊢;omega),cond_true]
  · rw [show ((0:Nat):Int)=0 from rfl] at h2
    rw [List.drop_zero] at h1
    rw [h2]
    exact .inr ⟨fun gs h=>h1 _ _ h,e,he,rfl⟩
end Go.T
set_option linter.unusedVariables false
set_option linter.unusedSimpArgs false
namespace Go.T
open Go Go.Ab
def numF (n:Int):Zac:=Zac.mk 1 n []
def textF (s:List UInt8):Zac:=Zac.mk 3 0 s
def entFs:List Zaa→List Zac
  | []=>[]
  | e::r=>numF e.Term::textF e.Data::entFs r
theorem ZlV (l:List Zaa):(entFs l).length=2 * l.length:=by
  induction l with
  | nil=>rfl
  | cons e r ih=>simp only [entFs,List.length_cons,ih];omega
def yesN (m:Zad):Int:=if m.Yes then 1 else 0
def ZdR (m:Zad):List Zac:=[numF m.Kind,numF m.From,numF m.To,numF m.Term,numF m.Index,numF m.LogTerm,numF m.Commit,numF (yesN m),numF (m.Entries.length:Int)]
def Zax (m:Zad):List Zac:=ZdR m++entFs m.Entries++[textF m.Data]
theorem ZdA (m:Zad):(Zax m).length=10+2 * m.Entries.length:=by
  simp only [Zax,ZdR,List.length_append,ZlV,List.length_cons,List.length_nil];omega
def okM (m:Zad):Prop:=m.Kind<9223372036854775808∧m.From<9223372036854775808∧m.To<9223372036854775808∧m.Term<9223372036854775808∧m.Index<9223372036854775808∧m.LogTerm<9223372036854775808∧m.Commit<9223372036854775808∧∀ e,e∈m.Entries→e.Term<9223372036854775808
theorem Zkk:∀ {l:List Zaa},(∀ e,e∈l→e.Term<9223372036854775808)→∀ f,f∈entFs l→okF f
  | [],_,f,h=>by cases h
  | e::r,hl,f,h=>by
    simp only [entFs,List.mem_cons] at h
    rcases h with rfl | rfl | h
    · exact .inl ⟨rfl,hl e List.mem_cons_self⟩
    · exact .inr rfl
    · exact Zkk (fun e h=>hl e (List.mem_cons_of_mem _ h)) f h
theorem Zhb {m:Zad} (h:okM m) (hn:m.Entries.length≤127):∀ f,f∈Zax m→okF f:=by
  obtain ⟨h1,h2,h3,h4,h5,h6,h7,h8⟩:=h
  intro f hf
  simp only [Zax,ZdR,List.mem_append,List.mem_cons,List.not_mem_nil,or_false] at hf
  have hy:yesN m<9223372036854775808:=by unfold yesN;split<;>decide
  rcases hf with ((rfl | rfl | rfl | rfl | rfl | rfl | rfl | rfl | rfl) | hf) | rfl
  · exact .inl ⟨rfl,h1⟩
  · exact .inl ⟨rfl,h2⟩
  · exact .inl ⟨rfl,h3⟩
  · exact .inl ⟨rfl,h4⟩
  · exact .inl ⟨rfl,h5⟩
  · exact .inl ⟨rfl,h6⟩
  · exact .inl ⟨rfl,h7⟩
  · exact .inl ⟨rfl,hy⟩
  · exact .inl ⟨rfl,by show (m.Entries.length:Int)<_;omega⟩
  · exact Zkk h8 f hf
  · exact .inr rfl
theorem ZiU (k n:Nat):Byt (putN k n):=by
  induction k generalizing n with
  | zero=>intro y hy;simp [putN] at hy;omega
  | succ k ih =>
    unfold putN
    split
    · intro y hy;simp at hy;omega
    · intro y hy
      rcases List.mem_cons.1 hy with rfl | hy
      · omega
      · exact ih _ y hy
theorem Byt.append2 {a b:List Int} (ha:Byt a) (hb:Byt b):Byt (a++b):=fun y hy=>by
  rcases List.mem_append.1 hy with h | h
  · exact ha y h
  · exact hb y h
theorem Zgn:∀ {l:List Zac} {b:List Int},encFs l=some b→Byt b
  | [],b,h=>by simp [encFs] at h;subst h;intro y hy;cases hy
  | f::r,b,h=>by
    simp only [encFs] at h
    cases h1:encF1 f with
    | none=>rw [h1] at h;cases h
    | some a =>
      rw [h1] at h
      cases h2:encFs r with
      | none=>rw [h2] at h;cases h
      | some c =>
        rw [h2] at h
        simp only [Option.map_some,Option.some.injEq] at h
        subst h
        refine Byt.append2 ?_ (Zgn h2)
        unfold encF1 at h1
        split at h1
        · split at h1
          · injection h1 with h1;subst h1;exact ZiU _ _
          · cases h1
        · split at h1
          · injection h1 with h1;subst h1;exact Byt.append2 (ZiU _ _) (ZjK _)
          · cases h1
theorem Zkc (m : Zad) (hn : m.Entries.length ≤ 127) : ∀ (r : List Zaa) (q i : Nat) (l : List Zac), m.Entries.drop i = r → i + r.length = m.Entries.length → r.length < q → l.length + 2 * r.length ≤ 1000 →
    Zca FF m q (i:Int) l=some (l++entFs r)
  | [],q,i,l,hd,hi,hq,hl=>by
    obtain ⟨q,rfl⟩:∃ p,q=p+1:=⟨q - 1,by omega⟩
    simp only [List.length_nil] at hi
    simp only [Zca]
    rw [show decide ((i:Int)<(m.Entries.length:Int))=false from decide_eq_false (by omega),cond_false]
    simp [entFs]
  | e::r,q,i,l,hd,hi,hq,hl=>by
    obtain ⟨q,rfl⟩:∃ p,q=p+1:=⟨q - 1,by omega⟩
    simp only [List.length_cons] at hi hq hl
    have hf:m.Entries[i]? = some e:=by
      have:=List.getElem?_drop (xs:=m.Entries) (i:=i) (j:=0)
      rw [hd] at this;simpa using this.symm
    have hd':m.Entries.drop (i+1)=r:=by rw [← List.drop_drop,hd];rfl
    simp only [Zca]
    rw [show decide ((i:Int)<(m.Entries.length:Int))=true from decide_eq_true (by omega),cond_true,show decide ((0:Int)≤(i:Int))=true from decide_eq_true (by omega),cond_true,Int.toNat_natCast,hf]
    simp only [Option.bind_some,ZbN,Zec]
    rw [show decide (l.length+2≤LIM)=true from decide_eq_true (by unfold LIM;omega),cond_true,wi1 _ (by omega),Zkc m hn r q (i+1) _ hd' (by omega) (by omega) (by simp;omega)]
    simp [entFs,numF,textF]
theorem ZjV (m : Zad) (hn : m.Entries.length ≤ 127) : ∀ (r : List Zaa) (q i : Nat) (l : List Zac), m.Entries.drop i = r → i + r.length = m.Entries.length → r.length < q → l.length + 2 * r.length ≤ 1000 →
    Za1 FF m q (i:Int) l=some (l++entFs r)
  | [],q,i,l,hd,hi,hq,hl=>by
    obtain ⟨q,rfl⟩:∃ p,q=p+1:=⟨q - 1,by omega⟩
    simp only [List.length_nil] at hi
    simp only [Za1]
    rw [show decide ((i:Int)<(m.Entries.length:Int))=false from decide_eq_false (by omega),cond_false]
    simp [entFs]
  | e::r,q,i,l,hd,hi,hq,hl=>by
    obtain ⟨q,rfl⟩:∃ p,q=p+1:=⟨q - 1,by omega⟩
    simp only [List.length_cons] at hi hq hl
    have hf:m.Entries[i]? = some e:=by
      have:=List.getElem?_drop (xs:=m.Entries) (i:=i) (j:=0)
      rw [hd] at this;simpa using this.symm
    have hd':m.Entries.drop (i+1)=r:=by rw [← List.drop_drop,hd];rfl
    simp only [Za1]
    rw [show decide ((i:Int)<(m.Entries.length:Int))=true from decide_eq_true (by omega),cond_true,show decide ((0:Int)≤(i:Int))=true from decide_eq_true (by omega),Int.toNat_natCast,hf]
    simp only [Option.bind_some,cond_true]
    rw [show decide (l.length+1≤LIM)=true from decide_eq_true (by unfold LIM;omega),cond_true,show decide (l.length+1+1≤LIM)=true from decide_eq_true (by unfold LIM;omega),cond_true,wi1 _ (by omega),ZjV m hn r q (i+1) _ hd' (by omega) (by omega) (by simp;omega)]
    simp [entFs,numF,textF]
def wireS (m:Zad):List UInt8:=if 127<m.Entries.length then [] else match encFs (Zax m) with | some b=>toBytes b | none=>[]
theorem Zkd (m:Zad) (hok:okM m):ZdF FF m=some (wireS m):=by
  unfold ZdF wireS
  by_cases h:127<m.Entries.length
  · rw [show decide ((127:Int)<(m.Entries.length:Int))=true from decide_eq_true (by omega),cond_true,if_pos h]
  · rw [show decide ((127:Int)<(m.Entries.length:Int))=false from decide_eq_false (by omega),cond_false,if_neg h]
    have hy:(bif m.Yes then some (1:Int) else some 0)=some (yesN m):=by unfold yesN;cases m.Yes<;>rfl
    rw [hy]
    simp only [Option.bind_some,ZbN,Zec,List.length_map]
    have h1:=Zkc m (by omega) m.Entries FF 0 (ZdR m) (by simp) (by simp) (by show _<4000000;omega) (by simp [ZdR];omega)
    simp only [ZdR,numF] at h1
    rw [show ((0:Nat):Int)=0 from rfl] at h1
    rw [h1]
    simp only [Option.bind_some]
    have h2:=ZdA m
    have h3:=ZlW (Zax m) (Zhb hok (by omega)) (by omega)
    simp only [Zax,ZdR,numF,textF] at h2 h3
    rw [show decide ((([Zac.mk 1 m.Kind [],Zac.mk 1 m.From [],Zac.mk 1 m.To [],Zac.mk 1 m.Term [],Zac.mk 1 m.Index [],Zac.mk 1 m.LogTerm [],Zac.mk 1 m.Commit [],Zac.mk 1 (yesN m) [],Zac.mk 1 (m.Entries.length:Int) []]++entFs m.Entries).length)+1≤LIM)=true from decide_eq_true (by simp only [List.length_append,List.length_cons,List.length_nil] at h2 ⊢;unfold LIM;omega),cond_true,h3]
    simp only [Option.bind_some,Zax,ZdR,numF,textF]
    cases h4:encFs ([Zac.mk 1 m.Kind [],Zac.mk 1 m.From [],Zac.mk 1 m.To [],Zac.mk 1 m.Term [],Zac.mk 1 m.Index [],Zac.mk 1 m.LogTerm [],Zac.mk 1 m.Commit [],Zac.mk 1 (yesN m) [],Zac.mk 1 (m.Entries.length:Int) []]++entFs m.Entries++[Zac.mk 3 0 m.Data]) with
    | none=>rfl
    | some b =>
      simp only
      rw [Ze9 (Zgn h4)];rfl
theorem ZjW (m : Zad) (y : Int) (l0 : List Int) (hl0 : l0 = [m.Kind, m.From, m.To, m.Term, m.Index, m.LogTerm, m.Commit, y, (m.Entries.length : Int)]) : ∀ (r : List Int) (q i : Nat) (l : List Zac), l0.drop i = r → i + r.length = l0.length → r.length < q → l.length + r.length ≤ 1000 →
    Za2 FF m y q (i:Int) l=some (l++r.map numF)
  | [],q,i,l,hd,hi,hq,hl=>by
    obtain ⟨q,rfl⟩:∃ p,q=p+1:=⟨q - 1,by omega⟩
    simp only [List.length_nil] at hi
    simp only [Za2,List.length_map]
    rw [← hl0,show decide ((i:Int)<(l0.length:Int))=false from decide_eq_false (by omega),cond_false]
    simp
  | e::r,q,i,l,hd,hi,hq,hl=>by
    obtain ⟨q,rfl⟩:∃ p,q=p+1:=⟨q - 1,by omega⟩
    simp only [List.length_cons] at hi hq hl
    have h9:l0.length=9:=by rw [hl0];rfl
    have hf:l0[i]? = some e:=by
      have:=List.getElem?_drop (xs:=l0) (i:=i) (j:=0)
      rw [hd] at this;simpa using this.symm
    have hd':l0.drop (i+1)=r:=by rw [← List.drop_drop,hd];rfl
    simp only [Za2,List.length_map]
    rw [← hl0,show decide ((i:Int)<(l0.length:Int))=true from decide_eq_true (by omega),cond_true,show decide ((0:Int)≤(i:Int))=true from decide_eq_true (by omega),cond_true,Int.toNat_natCast,hf]
    simp only [Option.bind_some]
    rw [show decide (l.length+1≤LIM)=true from decide_eq_true (by unfold LIM;omega),cond_true,wi1 _ (by omega),ZjW m y l0 hl0 r q (i+1) _ hd' (by omega) (by omega) (by simp;omega)]
    simp [numF]
theorem Zmh (m:Zad) (hok:okM m):Zcj FF m=some (wireS m):=by
  unfold Zcj wireS
  by_cases h:127<m.Entries.length
  · rw [show decide ((127:Int)<(m.Entries.length:Int))=true from decide_eq_true (by omega),cond_true,if_pos h]
  · rw [show decide ((127:Int)<(m.Entries.length:Int))=false from decide_eq_false (by omega),cond_false,if_neg h]
    have hy:(bif m.Yes then some (1:Int) else some 0)=some (yesN m):=by unfold yesN;cases m.Yes<;>rfl
    rw [hy]
    simp only [Option.bind_some]
    have h0:=ZjW m (yesN m) _ rfl _ FF 0 [] rfl (by simp) (by show _<4000000;simp) (by simp)
    rw [show ((0:Nat):Int)=0 from rfl,List.drop_zero,List.nil_append] at h0
    rw [h0]
    simp only [Option.bind_some]
    have h1:=ZjV m (by omega) m.Entries FF 0 (ZdR m) (by simp) (by simp) (by show _<4000000;omega) (by simp [ZdR];omega)
    rw [show ((0:Nat):Int)=0 from rfl] at h1
    rw [show List.map numF [m.Kind,m.From,m.To,m.Term,m.Index,m.LogTerm,m.Commit,yesN m,(m.Entries.length:Int)]=ZdR m from rfl,h1]
    simp only [Option.bind_some]
    have h2:=ZdA m
    have h3:=Zkz (Zax m) (Zhb hok (by omega)) (by omega)
    rw [show decide ((ZdR m++entFs m.Entries).length+1≤LIM)=true from decide_eq_true (by simp only [Zax,List.length_append,List.length_cons,List.length_nil] at h2 ⊢;unfold LIM;omega),cond_true,
      show ZdR m++entFs m.Entries++[Zac.mk 3 0 m.Data]=Zax m from rfl,h3]
    simp only [Option.bind_some]
    cases h4:encFs (Zax m) with
    | none=>rfl
    | some b =>
      simp only
      rw [Ze9 (Zgn h4)];rfl
end Go.T
set_option linter.unusedVariables false
set_option linter.unusedSimpArgs false
namespace Go.T
open Go Go.Ab
def ninth:Nat→Int→List Int→Int×Bool
  | _,_,[]=>(0,false)
  | k,p,c::r=>if c<128 then (if k=1 then (c,decide (p<128)) else ninth (k - 1) c r) else ninth k c r
def cntE (u:List UInt8):Nat:=u.countP fun c=>decide (c.toNat<128)
theorem ZgK (body : List UInt8) (hL : body.length ≤ LIM) : ∀ (u w : List UInt8) (m i k : Nat) (p : Int), body.drop i = u ++ w → i + (u ++ w).length = body.length → 1 ≤ k → k ≤ 9 → u.length < m → (w = [] ∨ k ≤ cntE u) →
    (0<i→∃ c:UInt8,body[i - 1]? = some c∧p=((c.toNat:Nat):Int))→(i=0→128≤p) →
    ∃ o,Zbn FF body m (i:Int) (k:Int)=some o∧Sum.elim id (fun _=>((0:Int),false)) o=ninth k p (byI (u++w))
  | [],w,m,i,k,p,hd,hi,h1,h9,hm,hc,hp,hp0=>by
    obtain ⟨m,rfl⟩:∃ q,m=q+1:=⟨m - 1,by omega⟩
    rcases hc with rfl | hc
    · simp only [List.append_nil,List.length_nil] at hi
      refine ⟨.inr (),?_,rfl⟩
      simp only [Zbn]
      rw [show decide ((i:Int)<(body.length:Int))=false from decide_eq_false (by omega),cond_false]
    · simp [cntE] at hc;omega
  | c::u,w,m,i,k,p,hd,hi,h1,h9,hm,hc,hp,hp0=>by
    obtain ⟨m,rfl⟩:∃ q,m=q+1:=⟨m - 1,by omega⟩
    simp only [List.cons_append,List.length_cons] at hi hm hd
    unfold LIM at hL
    have hf:body[i]? = some c:=by
      have:=List.getElem?_drop (xs:=body) (i:=i) (j:=0)
      rw [hd] at this;simpa using this.symm
    have hd':body.drop (i+1)=u++w:=by rw [← List.drop_drop,hd];rfl
    have hcl:=c.toNat_lt
    simp only [Zbn]
    rw [show decide ((i:Int)<(body.length:Int))=true from decide_eq_true (by omega),cond_true,show decide ((0:Int)≤(i:Int))=true from decide_eq_true (by omega),Int.toNat_natCast,hf]
    simp only [Option.bind_some,cond_true,List.cons_append]
    rw [show byI (c::(u++w))=((c.toNat:Nat):Int)::byI (u++w) from rfl,ninth]
    by_cases h128:c.toNat<128
    · have hx:((c.toNat:Nat):Int)<128:=by omega
      rw [decide_eq_true hx,if_pos hx,cond_true,show IntKind.wrap IntKind.i64 ((k:Int) - 1)=((k - 1:Nat):Int) by rw [IntKind.wrap_i64];omega]
      simp only [Option.bind_some]
      by_cases hk:k=1
      · subst hk
        rw [if_pos rfl]
        simp only [Nat.sub_self,Int.ofNat_zero,show ((0:Int)==(0:Int))=true from rfl,cond_true]
        by_cases hi0:0<i
        · obtain ⟨d,h2,h3⟩:=hp hi0
          rw [show decide ((0:Int)<(i:Int))=true from decide_eq_true (by omega),show IntKind.wrap IntKind.i64 ((i:Int) - 1)=((i - 1:Nat):Int) by rw [IntKind.wrap_i64];omega,show decide ((0:Int)≤((i - 1:Nat):Int))=true from decide_eq_true (by omega),Int.toNat_natCast,h2,wi _ (by omega)]
          simp only [Option.bind_some,cond_true]
          exact ⟨_,rfl,by rw [h3];rfl⟩
        · rw [show decide ((0:Int)<(i:Int))=false from decide_eq_false (by omega),wi _ (by omega)]
          simp only [cond_false]
          refine ⟨_,rfl,?_⟩
          rw [show decide (p<128)=false from decide_eq_false (by have:=hp0 (by omega);omega)];rfl
      · rw [if_neg hk,show (((k - 1:Nat):Int)==(0:Int))=false from beq_false_of_ne (by omega),cond_false,wi1 _ (by omega)]
        refine ZgK body (by unfold LIM;omega) u w m (i+1) (k - 1) _ hd' (by omega) (by omega) (by omega) (by omega) ?_ (fun _=>⟨c,by simpa using hf,rfl⟩) (fun h=>by omega)
        rcases hc with h | h
        · exact .inl h
        · refine .inr ?_
          simp only [cntE,List.countP_cons,decide_eq_true h128,if_true] at h ⊢
          omega
    · have hx:¬ ((c.toNat:Nat):Int)<128:=by omega
      rw [decide_eq_false hx,if_neg hx,cond_false]
      simp only [Option.bind_some]
      rw [show ((k:Int)==(0:Int))=false from beq_false_of_ne (by omega),cond_false,wi1 _ (by omega)]
      refine ZgK body (by unfold LIM;omega) u w m (i+1) k _ hd' (by omega) (by omega) (by omega) (by omega) ?_ (fun _=>⟨c,by simpa using hf,rfl⟩) (fun h=>by omega)
      rcases hc with h | h
      · exact .inl h
      · refine .inr ?_
        simp only [cntE,List.countP_cons,decide_eq_false h128] at h ⊢
        simpa using h
theorem Zic (u w:List UInt8) (hL:(u++w).length≤LIM) (hu:u.length<FF) (hc:w=[]∨9≤cntE u):ZcD FF (u++w)=some (ninth 9 255 (byI (u++w))):=by
  obtain ⟨o,h1,h2⟩:=ZgK (u++w) hL u w FF 0 9 255 rfl (by simp) (by decide) (by decide) hu hc (fun h=>by omega) (fun _=>by decide)
  unfold ZcD
  rw [show ((0:Nat):Int)=0 from rfl,show ((9:Nat):Int)=9 from rfl] at h1
  rw [h1,← h2]
  cases o<;>rfl
theorem Zit:∀ (hi:List Int) (k:Nat) (p:Int) (t:List Int),(∀ z,z∈hi→128≤z∧z≤255)→∃ q,(hi=[]→q=p)∧(hi≠[]→128≤q)∧ninth k p (hi++t)=ninth k q t
  | [],k,p,t,h=>⟨p,fun _=>rfl,fun h=>absurd rfl h,rfl⟩
  | z::hi,k,p,t,h=>by
    obtain ⟨q,h1,h2,h3⟩:=Zit hi k z t fun y hy=>h y (List.mem_cons_of_mem _ hy)
    have hz:=h z List.mem_cons_self
    refine ⟨q,(fun e=>nomatch e),fun _=>?_,?_⟩
    · by_cases he:hi=[]
      · rw [h1 he];exact hz.1
      · exact h2 he
    · rw [List.cons_append,ninth,if_neg (by omega),h3]
theorem ZdQ (k:Nat) (hk:2≤k) (v:Nat) (hv:v<18446744073709551616) (p:Int) (r:List Int):∃ q:Int,q<128∧ninth k p (putL v++r)=ninth (k - 1) q r:=by
  obtain ⟨hi,y,h1,-,h3,h4,-⟩:=ZfD 9 v (by simp;omega)
  obtain ⟨q,-,-,h5⟩:=Zit hi k p ((y:Int)::r) h3
  refine ⟨(y:Int),by omega,?_⟩
  rw [show putL v=hi++[(y:Int)] from h1,List.append_assoc,List.singleton_append,h5,ninth,if_pos (by omega),if_neg (by omega)]
theorem ZkE (v:Nat) (hv:v<18446744073709551616) (p:Int) (hp:p<128) (r:List Int):∃ y:Int,ninth 1 p (putL v++r)=(y,decide (v<128))∧(v<128→y=(v:Int)):=by
  by_cases h:v<128
  · refine ⟨(v:Int),?_,fun _=>rfl⟩
    have e:putL v=[(v:Int)]:=by show putN 9 v=_;rw [putN,if_pos h]
    rw [e,List.singleton_append,ninth,if_pos (by omega),if_pos rfl,decide_eq_true hp,decide_eq_true h]
  · obtain ⟨hi,y,h1,-,h3,h4,-⟩:=ZfD 9 v (by simp;omega)
    obtain ⟨q,-,h6,h5⟩:=Zit hi 1 p ((y:Int)::r) h3
    have hne:hi≠[]:=by
      rintro rfl
      rw [putN,if_neg h,List.nil_append] at h1
      injection h1 with h1 _
      omega
    refine ⟨(y:Int),?_,fun h'=>absurd h' h⟩
    rw [show putL v=hi++[(y:Int)] from h1,List.append_assoc,List.singleton_append,h5,ninth,if_pos (by omega),if_pos rfl,decide_eq_false (by have:=h6 hne;omega),decide_eq_false h]
theorem Ze7 (v:Nat) (hv:v<18446744073709551616):1≤cntE (toBytes (putL v)):=by
  obtain ⟨hi,y,h1,-,h3,h4,-⟩:=ZfD 9 v (by simp;omega)
  rw [show putL v=hi++[(y:Int)] from h1]
  simp only [toBytes,List.map_append,List.map_cons,List.map_nil,cntE,List.countP_append,List.countP_cons,List.countP_nil]
  have:decide ((UInt8.ofNat (y:Int).toNat).toNat<128)=true:=by
    rw [Int.toNat_natCast,UInt8.toNat_ofNat'];exact decide_eq_true (by omega)
  rw [this];simp
theorem Zdm {n:Int} {fs:List Zac} {b:List Int} (h:encFs (numF n::fs)=some b):0≤n∧∃ t,b=putL n.toNat++t∧encFs fs=some t:=by
  have e:encF1 (numF n)=if 0≤n then some (putL n.toNat) else none:=by
    unfold encF1;rw [if_pos (show (numF n).Kind=1 from rfl)];rfl
  rw [encFs,e] at h
  by_cases hn:0≤n
  · rw [if_pos hn] at h
    simp only at h
    cases h2:encFs fs with
    | none=>rw [h2] at h;cases h
    | some t =>
      rw [h2] at h
      simp only [Option.map_some,Option.some.injEq] at h
      exact ⟨hn,t,h.symm,rfl⟩
  · rw [if_neg hn] at h;cases h
def nums9 (a0 a1 a2 a3 a4 a5 a6 a7 a8:Int):List Zac:=[numF a0,numF a1,numF a2,numF a3,numF a4,numF a5,numF a6,numF a7,numF a8]
theorem nine {a0 a1 a2 a3 a4 a5 a6 a7 a8 : Int} {fs : List Zac} {b : List Int} (h : encFs (nums9 a0 a1 a2 a3 a4 a5 a6 a7 a8 ++ fs) = some b)
    (l0:a0<9223372036854775808) (l1:a1<9223372036854775808) (l2:a2<9223372036854775808) (l3:a3<9223372036854775808) (l4:a4<9223372036854775808) (l5:a5<9223372036854775808) (l6:a6<9223372036854775808) (l7:a7<9223372036854775808) (l8:a8<9223372036854775808) :
    (∃ y,ninth 9 255 b=(y,decide (a8<128))∧(a8<128→y=a8))∧∃ u w,b=u++w∧u.length≤90∧9≤cntE (toBytes u):=by
  simp only [nums9,List.cons_append,List.nil_append] at h
  obtain ⟨p0,b0,r0,h⟩:=Zdm h
  obtain ⟨p1,b1,r1,h⟩:=Zdm h
  obtain ⟨p2,b2,r2,h⟩:=Zdm h
  obtain ⟨p3,b3,r3,h⟩:=Zdm h
  obtain ⟨p4,b4,r4,h⟩:=Zdm h
  obtain ⟨p5,b5,r5,h⟩:=Zdm h
  obtain ⟨p6,b6,r6,h⟩:=Zdm h
  obtain ⟨p7,b7,r7,h⟩:=Zdm h
  obtain ⟨p8,b8,r8,h⟩:=Zdm h
  subst r0;subst r1;subst r2;subst r3;subst r4;subst r5;subst r6;subst r7;subst r8
  constructor
  · obtain ⟨q0,e0,h0⟩:=ZdQ 9 (by decide) a0.toNat (by omega) 255 (putL a1.toNat++(putL a2.toNat++(putL a3.toNat++(putL a4.toNat++(putL a5.toNat++(putL a6.toNat++(putL a7.toNat++(putL a8.toNat++b8))))))))
    obtain ⟨q1,e1,h1⟩:=ZdQ 8 (by decide) a1.toNat (by omega) q0 (putL a2.toNat++(putL a3.toNat++(putL a4.toNat++(putL a5.toNat++(putL a6.toNat++(putL a7.toNat++(putL a8.toNat++b8)))))))
    obtain ⟨q2,e2,h2⟩:=ZdQ 7 (by decide) a2.toNat (by omega) q1 (putL a3.toNat++(putL a4.toNat++(putL a5.toNat++(putL a6.toNat++(putL a7.toNat++(putL a8.toNat++b8))))))
    obtain ⟨q3,e3,h3⟩:=ZdQ 6 (by decide) a3.toNat (by omega) q2 (putL a4.toNat++(putL a5.toNat++(putL a6.toNat++(putL a7.toNat++(putL a8.toNat++b8)))))
    obtain ⟨q4,e4,h4⟩:=ZdQ 5 (by decide) a4.toNat (by omega) q3 (putL a5.toNat++(putL a6.toNat++(putL a7.toNat++(putL a8.toNat++b8))))
    obtain ⟨q5,e5,h5⟩:=ZdQ 4 (by decide) a5.toNat (by omega) q4 (putL a6.toNat++(putL a7.toNat++(putL a8.toNat++b8)))
    obtain ⟨q6,e6,h6⟩:=ZdQ 3 (by decide) a6.toNat (by omega) q5 (putL a7.toNat++(putL a8.toNat++b8))
    obtain ⟨q7,e7,h7⟩:=ZdQ 2 (by decide) a7.toNat (by omega) q6 (putL a8.toNat++b8)
    obtain ⟨y,h8,h9⟩:=ZkE a8.toNat (by omega) q7 e7 b8
    refine ⟨y,?_,fun h=>by rw [h9 (by omega)];omega⟩
    rw [h0,show 9 - 1=8 from rfl,h1,show 8 - 1=7 from rfl,h2,show 7 - 1=6 from rfl,h3,show 6 - 1=5 from rfl,h4,show 5 - 1=4 from rfl,h5,show 4 - 1=3 from rfl,h6,show 3 - 1=2 from rfl,h7,show 2 - 1=1 from rfl,h8]
    congr 1
    rw [decide_eq_decide];omega
  · refine ⟨putL a0.toNat++(putL a1.toNat++(putL a2.toNat++(putL a3.toNat++(putL a4.toNat++(putL a5.toNat++(putL a6.toNat++(putL a7.toNat++putL a8.toNat))))))),b8,by simp only [List.append_assoc],?_,?_⟩
    · have:=ZbL a0.toNat
      have:=ZbL a1.toNat
      have:=ZbL a2.toNat
      have:=ZbL a3.toNat
      have:=ZbL a4.toNat
      have:=ZbL a5.toNat
      have:=ZbL a6.toNat
      have:=ZbL a7.toNat
      have:=ZbL a8.toNat
      simp only [List.length_append];omega
    · have hc:∀ (u w:List Int),cntE (toBytes (u++w))=cntE (toBytes u)+cntE (toBytes w):=fun u w=>by simp [cntE,toBytes,List.countP_append]
      have:=Ze7 a0.toNat (by omega)
      have:=Ze7 a1.toNat (by omega)
      have:=Ze7 a2.toNat (by omega)
      have:=Ze7 a3.toNat (by omega)
      have:=Ze7 a4.toNat (by omega)
      have:=Ze7 a5.toNat (by omega)
      have:=Ze7 a6.toNat (by omega)
      have:=Ze7 a7.toNat (by omega)
      have:=Ze7 a8.toNat (by omega)
      simp only [hc];omega
def entK:Nat→List Int
  | 0=>[]
  | n+1=>1::3::entK n
theorem Zg7 (n:Nat):(entK n).length=2 * n:=by
  induction n with
  | zero=>rfl
  | succ n ih=>simp only [entK,List.length_cons,ih];omega
theorem Zjf (n:Nat):entK n++[1,3]=entK (n+1):=by
  induction n with
  | zero=>rfl
  | succ n ih=>rw [entK,List.cons_append,List.cons_append,ih];rfl
def nineK:List Int:=[1,1,1,1,1,1,1,1,1]
def Zfg (n:Nat):List Int:=nineK++entK n++[3]
theorem Zh6 (n:Nat):(Zfg n).length=10+2 * n:=by simp only [Zfg,nineK,List.length_append,Zg7,List.length_cons,List.length_nil];omega
theorem Zi7 (n:Nat):∀ k,k∈Zfg n→k=1∨k=3:=by
  have he:∀ n k,k∈entK n→k=1∨k=3:=by
    intro n
    induction n with
    | zero=>intro k h;cases h
    | succ n ih =>
      intro k h
      simp only [entK,List.mem_cons] at h
      rcases h with h | h | h
      · exact .inl h
      · exact .inr h
      · exact ih k h
  intro k h
  simp only [Zfg,nineK,List.mem_append,List.mem_cons,List.not_mem_nil,or_false] at h
  rcases h with (h | h) | h
  · left;omega
  · exact he n k h
  · exact .inr h
theorem ZfX {f:Zac} (h:nf 1 f):f=numF f.N∧0≤f.N∧f.N<9223372036854775808:=by
  obtain ⟨h1,⟨_,h2,h3,h4⟩ | ⟨h2,_⟩⟩:=h
  · refine ⟨?_,h2,h3⟩
    cases f
    simp only at h1 h4
    subst h1;subst h4;rfl
  · omega
theorem Zlx {f:Zac} (h:nf 3 f):f=textF f.S∧f.S.length≤65536:=by
  obtain ⟨h1,⟨h2,_⟩ | ⟨_,h2,h3⟩⟩:=h
  · omega
  · refine ⟨?_,h3⟩
    cases f
    simp only at h1 h2
    subst h1;subst h2;rfl
theorem ZcS {k:Int} {ks:List Int} {fs:List Zac} (h:nfs (k::ks) fs):∃ f gs,fs=f::gs∧nf k f∧nfs ks gs:=by
  cases fs with
  | nil=>exact h.elim
  | cons f gs=>exact ⟨f,gs,rfl,h.1,h.2⟩
theorem Zlw:∀ (n:Nat) {ks:List Int} {fs:List Zac},nfs (entK n++ks) fs→∃ es gs,es.length=n∧fs=entFs es++gs∧nfs ks gs∧∀ e,e∈es→e.Term<9223372036854775808
  | 0,ks,fs,h=>⟨[],fs,rfl,rfl,h,fun e h=>by cases h⟩
  | n+1,ks,fs,h=>by
    simp only [entK,List.cons_append] at h
    obtain ⟨f,fs,rfl,h1,h⟩:=ZcS h
    obtain ⟨g,fs,rfl,h2,h⟩:=ZcS h
    obtain ⟨es,gs,h3,rfl,h4,h5⟩:=Zlw n h
    obtain ⟨e1,e2,e3⟩:=ZfX h1
    obtain ⟨e4,e5⟩:=Zlx h2
    refine ⟨Zaa.mk f.N g.S::es,gs,by simp [h3],?_,h4,fun e he=>?_⟩
    · rw [entFs,List.cons_append,List.cons_append]
      show _=numF f.N::textF g.S::_
      rw [← e1,← e4]
    · rcases List.mem_cons.1 he with rfl | he
      · exact e3
      · exact h5 e he
theorem Znk {n : Nat} {fs : List Zac} (h : nfs (Zfg n) fs) : ∃ (a0 a1 a2 a3 a4 a5 a6 a7 a8 : Int) (es : List Zaa) (d : List UInt8), es.length = n ∧ fs = nums9 a0 a1 a2 a3 a4 a5 a6 a7 a8 ++ entFs es ++ [textF d] ∧
    0≤a7∧0≤a8∧a0<9223372036854775808∧a1<9223372036854775808∧a2<9223372036854775808∧a3<9223372036854775808∧a4<9223372036854775808∧a5<9223372036854775808∧a6<9223372036854775808∧a7<9223372036854775808∧a8<9223372036854775808∧∀ e,e∈es→e.Term<9223372036854775808:=by
  simp only [Zfg,nineK,List.cons_append,List.nil_append] at h
  obtain ⟨f0,fs,rfl,h0,h⟩:=ZcS h
  obtain ⟨f1,fs,rfl,h1,h⟩:=ZcS h
  obtain ⟨f2,fs,rfl,h2,h⟩:=ZcS h
  obtain ⟨f3,fs,rfl,h3,h⟩:=ZcS h
  obtain ⟨f4,fs,rfl,h4,h⟩:=ZcS h
  obtain ⟨f5,fs,rfl,h5,h⟩:=ZcS h
  obtain ⟨f6,fs,rfl,h6,h⟩:=ZcS h
  obtain ⟨f7,fs,rfl,h7,h⟩:=ZcS h
  obtain ⟨f8,fs,rfl,h8,h⟩:=ZcS h
  obtain ⟨es,gs,hn,rfl,h,hE⟩:=Zlw n h
  obtain ⟨d,gs,rfl,hd,h⟩:=ZcS h
  cases gs with
  | cons _ _=>exact h.elim
  | nil =>
    obtain ⟨e0,p0,q0⟩:=ZfX h0
    obtain ⟨e1,p1,q1⟩:=ZfX h1
    obtain ⟨e2,p2,q2⟩:=ZfX h2
    obtain ⟨e3,p3,q3⟩:=ZfX h3
    obtain ⟨e4,p4,q4⟩:=ZfX h4
    obtain ⟨e5,p5,q5⟩:=ZfX h5
    obtain ⟨e6,p6,q6⟩:=ZfX h6
    obtain ⟨e7,p7,q7⟩:=ZfX h7
    obtain ⟨e8,p8,q8⟩:=ZfX h8
    obtain ⟨ed,_⟩:=Zlx hd
    refine ⟨f0.N,f1.N,f2.N,f3.N,f4.N,f5.N,f6.N,f7.N,f8.N,es,d.S,hn,?_,p7,p8,q0,q1,q2,q3,q4,q5,q6,q7,q8,hE⟩
    simp only [nums9,List.cons_append,List.nil_append]
    rw [← e0,← e1,← e2,← e3,← e4,← e5,← e6,← e7,← e8,← ed]
end Go.T
set_option linter.unusedVariables false
set_option linter.unusedSimpArgs false
namespace Go.T
open Go Go.Ab
def Rd (b:List Int) (m:Zad):Prop:=m.Entries.length≤127∧okM m∧encFs (Zax m)=some b
theorem Zi9 (m:Zad):ZdR m=nums9 m.Kind m.From m.To m.Term m.Index m.LogTerm m.Commit (yesN m) (m.Entries.length:Int):=rfl
theorem Zjt (m:Zad):0≤yesN m∧yesN m≤1:=by unfold yesN;split<;>decide
theorem Zjk:∀ {ks:List Int} {fs:List Zac} {b:List Int},(∀ f,f∈fs→okF f)→fs.map Zac.Kind=ks→(∀ f,f∈fs→(f.Kind=1→f.S=[])∧(f.Kind=3→f.N=0))→encFs fs=some b→nfs ks fs
  | ks,[],b,_,hk,_,_=>by simp at hk;subst hk;exact trivial
  | ks,f::fs,b,ho,hk,hs,h=>by
    cases ks with
    | nil=>simp at hk
    | cons k ks =>
      simp only [List.map_cons,List.cons.injEq] at hk
      simp only [encFs] at h
      cases h1:encF1 f with
      | none=>rw [h1] at h;cases h
      | some a =>
        rw [h1] at h
        cases h2:encFs fs with
        | none=>rw [h2] at h;cases h
        | some c =>
          refine ⟨?_,Zjk (fun f h=>ho f (List.mem_cons_of_mem _ h)) hk.2 (fun f h=>hs f (List.mem_cons_of_mem _ h)) h2⟩
          have hsf:=hs f List.mem_cons_self
          unfold encF1 at h1
          rcases ho f List.mem_cons_self with ⟨q1,q2⟩ | q1
          · rw [if_pos q1] at h1
            refine ⟨hk.1,.inl ⟨by omega,?_,q2,hsf.1 q1⟩⟩
            split at h1
            · assumption
            · cases h1
          · rw [if_neg (by omega)] at h1
            refine ⟨hk.1,.inr ⟨by omega,hsf.2 q1,?_⟩⟩
            split at h1
            · assumption
            · cases h1
theorem ZjH (l:List Zaa):(entFs l).map Zac.Kind=entK l.length:=by
  induction l with
  | nil=>rfl
  | cons e l ih=>simp only [entFs,List.map_cons,ih,List.length_cons,entK];rfl
theorem Zkj:∀ {l:List Zaa} f,f∈entFs l→(f.Kind=1→f.S=[])∧(f.Kind=3→f.N=0)
  | [],f,h=>by cases h
  | e::l,f,h=>by
    simp only [entFs,List.mem_cons] at h
    rcases h with rfl | rfl | h
    · exact ⟨fun _=>rfl,fun h=>nomatch h⟩
    · exact ⟨(fun h=>nomatch h),fun _=>rfl⟩
    · exact Zkj f h
theorem Rd.flds {b:List Int} {m:Zad} (h:Rd b m):Flds (Zfg m.Entries.length) b (Zax m) []:=by
  obtain ⟨h1,h2,h3⟩:=h
  refine ⟨Zjk (Zhb h2 h1) ?_ ?_ h3,b,h3,(List.append_nil b).symm⟩
  · simp only [Zax,List.map_append,ZjH];rfl
  · intro f hf
    simp only [Zax,ZdR,List.mem_append,List.mem_cons,List.not_mem_nil,or_false] at hf
    rcases hf with ((rfl | rfl | rfl | rfl | rfl | rfl | rfl | rfl | rfl) | hf) | rfl
    · exact ⟨fun _=>rfl,fun h=>nomatch h⟩
    · exact ⟨fun _=>rfl,fun h=>nomatch h⟩
    · exact ⟨fun _=>rfl,fun h=>nomatch h⟩
    · exact ⟨fun _=>rfl,fun h=>nomatch h⟩
    · exact ⟨fun _=>rfl,fun h=>nomatch h⟩
    · exact ⟨fun _=>rfl,fun h=>nomatch h⟩
    · exact ⟨fun _=>rfl,fun h=>nomatch h⟩
    · exact ⟨fun _=>rfl,fun h=>nomatch h⟩
    · exact ⟨fun _=>rfl,fun h=>nomatch h⟩
    · exact Zkj f hf
    · exact ⟨(fun h=>nomatch h),fun _=>rfl⟩
theorem Rd.nine {b:List Int} {m:Zad} (h:Rd b m):ninth 9 255 b=((m.Entries.length:Int),true)∧∃ u w,b=u++w∧u.length≤90∧9≤cntE (toBytes u):=by
  obtain ⟨h1,⟨l0,l1,l2,l3,l4,l5,l6,_⟩,h3⟩:=h
  rw [Zax,Zi9,List.append_assoc] at h3
  have hy:=Zjt m
  obtain ⟨⟨y,e1,e2⟩,h5⟩:=Go.T.nine h3 l0 l1 l2 l3 l4 l5 l6 (by omega) (by omega)
  refine ⟨?_,h5⟩
  rw [e1,e2 (by omega),decide_eq_true (by omega)]
theorem Zjg:∀ {l l':List Zaa} {r r':List Zac},l.length=l'.length→entFs l++r=entFs l'++r'→l=l'∧r=r'
  | [],[],r,r',_,h=>⟨rfl,h⟩
  | [],_::_,_,_,h,_=>by cases h
  | _::_,[],_,_,h,_=>by cases h
  | e::l,e'::l',r,r',h,h2=>by
    simp only [entFs,List.cons_append,numF,textF,List.cons.injEq,Zac.mk.injEq,true_and,and_true] at h2
    obtain ⟨h3,h4⟩:=Zjg (by simpa using h) h2.2.2
    cases e;cases e'
    simp only at h2
    rw [h2.1,h2.2.1,h3]
    exact ⟨rfl,h4⟩
theorem Zkv {m m':Zad} (h:m.Entries.length=m'.Entries.length) (h2:Zax m=Zax m'):m=m':=by
  simp only [Zax,ZdR,List.cons_append,List.nil_append,numF,List.cons.injEq,Zac.mk.injEq,true_and,and_true] at h2
  obtain ⟨e0,e1,e2,e3,e4,e5,e6,e7,-,e8⟩:=h2
  obtain ⟨e9,e10⟩:=Zjg h e8
  simp only [textF,List.cons.injEq,Zac.mk.injEq,true_and,and_true] at e10
  have e11:m.Yes=m'.Yes:=by
    unfold yesN at e7
    cases h1:m.Yes<;>cases h2:m'.Yes<;>simp [h1,h2] at e7<;>rfl
  cases m;cases m'
  simp only at e0 e1 e2 e3 e4 e5 e6 e9 e10 e11
  rw [e0,e1,e2,e3,e4,e5,e6,e9,e10,e11]
theorem Rd.uniq {b:List Int} {m m':Zad} (h:Rd b m) (h':Rd b m'):m=m':=by
  have h1:=h.nine.1
  have h2:=h'.nine.1
  rw [h1] at h2
  have hl:m.Entries.length=m'.Entries.length:=by
    simp only [Prod.mk.injEq,and_true] at h2;omega
  have h3:=h.flds
  rw [hl] at h3
  exact Zkv hl (ZfG h3 h'.flds).1
theorem rd_of {n : Nat} {b : List Int} {fs : List Zac} (hn : n ≤ 127) (h : Flds (Zfg n) b fs []) : ∃ (a7 a8 : Int), (fs[7]?).map Zac.N = some a7 ∧ (fs[8]?).map Zac.N = some a8 ∧ 0 ≤ a7 ∧ 0 ≤ a8 ∧
    (∃ y,ninth 9 255 b=(y,decide (a8<128))∧(a8<128→y=a8))∧(a7≤1→a8=(n:Int)→∃ m,Rd b m∧fs=Zax m∧m.Entries.length=n):=by
  obtain ⟨hf,a,ha,hb⟩:=h
  rw [List.append_nil] at hb
  subst hb
  obtain ⟨a0,a1,a2,a3,a4,a5,a6,a7,a8,es,d,hes,rfl,p7,p8,q0,q1,q2,q3,q4,q5,q6,q7,q8,qe⟩:=Znk hf
  refine ⟨a7,a8,rfl,rfl,p7,p8,?_,fun h7 h8=>?_⟩
  · rw [List.append_assoc] at ha
    exact (nine ha q0 q1 q2 q3 q4 q5 q6 q7 q8).1
  · have e:nums9 a0 a1 a2 a3 a4 a5 a6 a7 a8++entFs es++[textF d]=Zax (Zad.mk a0 a1 a2 a3 a4 a5 a6 (a7==1) es d):=by
      have ey:yesN (Zad.mk a0 a1 a2 a3 a4 a5 a6 (a7==1) es d)=a7:=by
        unfold yesN
        by_cases h1:a7=1
        · subst h1;rfl
        · have:(a7==1)=false:=beq_false_of_ne h1
          simp only [this];simp;omega
      rw [Zax,Zi9,ey,h8]
      simp only [hes]
    rw [e] at ha ⊢
    exact ⟨_,⟨by simp only [hes];exact hn,⟨q0,q1,q2,q3,q4,q5,q6,qe⟩,ha⟩,rfl,hes⟩
theorem ZhY {m:Zad} {j:Nat} {e:Zaa} (h:m.Entries[j]? = some e):(Zax m)[9+2 * j]? = some (numF e.Term)∧(Zax m)[10+2 * j]? = some (textF e.Data):=by
  have he:∀ (l:List Zaa) (r:List Zac) (j:Nat) (e:Zaa),l[j]? = some e→(entFs l++r)[2 * j]? = some (numF e.Term)∧(entFs l++r)[2 * j+1]? = some (textF e.Data):=by
    intro l
    induction l with
    | nil=>intro r j e h;simp at h
    | cons x l ih =>
      intro r j e h
      cases j with
      | zero=>simp at h;subst h;exact ⟨rfl,rfl⟩
      | succ j =>
        simp only [List.getElem?_cons_succ] at h
        have:=ih r j e h
        rw [show 2 * (j+1)=2 * j+1+1 by omega]
        exact this
  obtain ⟨h1,h2⟩:=he m.Entries [textF m.Data] j e h
  rw [Zax,List.append_assoc]
  have h9:(ZdR m).length=9:=rfl
  constructor
  · rw [List.getElem?_append_right (by omega),h9,show 9+2 * j - 9=2 * j by omega,h1]
  · rw [List.getElem?_append_right (by omega),h9,show 10+2 * j - 9=2 * j+1 by omega,h2]
theorem Zhc (m:Zad):(Zax m)[(Zax m).length - 1]? = some (textF m.Data):=by
  have h:=ZdA m
  rw [Zax] at h ⊢
  rw [List.length_append,List.length_singleton,Nat.add_sub_cancel,List.getElem?_append_right (Nat.le_refl _),Nat.sub_self];rfl
theorem ZlO (m : Zad) (hn : m.Entries.length ≤ 127) : ∀ (r : List Zaa) (q i : Nat) (l : List Zaa), m.Entries.drop i = r → i + r.length = m.Entries.length → r.length < q → l.length + r.length ≤ 1000 →
    Zbm FF (Zax m) (m.Entries.length:Int) q (i:Int) l=some (l++r)
  | [],q,i,l,hd,hi,hq,hl=>by
    obtain ⟨q,rfl⟩:∃ p,q=p+1:=⟨q - 1,by omega⟩
    simp only [List.length_nil] at hi
    simp only [Zbm]
    rw [show decide ((i:Int)<(m.Entries.length:Int))=false from decide_eq_false (by omega),cond_false]
    simp
  | e::r,q,i,l,hd,hi,hq,hl=>by
    obtain ⟨q,rfl⟩:∃ p,q=p+1:=⟨q - 1,by omega⟩
    simp only [List.length_cons] at hi hq hl
    have hf:m.Entries[i]? = some e:=by
      have:=List.getElem?_drop (xs:=m.Entries) (i:=i) (j:=0)
      rw [hd] at this;simpa using this.symm
    have hd':m.Entries.drop (i+1)=r:=by rw [← List.drop_drop,hd];rfl
    obtain ⟨h9,h10⟩:=ZhY hf
    simp only [Zbm]
    have w2:IntKind.wrap IntKind.i64 ((2:Int) * (i:Int))=((2 * i:Nat):Int):=by rw [IntKind.wrap_i64];omega
    have w9:IntKind.wrap IntKind.i64 ((9:Int)+((2 * i:Nat):Int))=((9+2 * i:Nat):Int):=by rw [IntKind.wrap_i64];omega
    have w10:IntKind.wrap IntKind.i64 ((10:Int)+((2 * i:Nat):Int))=((10+2 * i:Nat):Int):=by rw [IntKind.wrap_i64];omega
    rw [show decide ((i:Int)<(m.Entries.length:Int))=true from decide_eq_true (by omega),cond_true,w2,w9,w10,show decide ((0:Int)≤((9+2 * i:Nat):Int))=true from decide_eq_true (by omega),show decide ((0:Int)≤((10+2 * i:Nat):Int))=true from decide_eq_true (by omega),Int.toNat_natCast,Int.toNat_natCast,h9,h10]
    simp only [Option.bind_some,cond_true]
    rw [show decide (l.length+1≤LIM)=true from decide_eq_true (by unfold LIM;omega),cond_true,wi1 _ (by omega),ZlO m hn r q (i+1) _ hd' (by omega) (by omega) (by simp;omega)]
    simp [numF,textF]
theorem Znq (m:Zad) (hn:m.Entries.length≤127):Zdk FF (Zax m) (m.Entries.length:Int)=some (m.Kind,m.From,m.To,m.Term,m.Index,m.LogTerm,m.Commit,m.Yes,m.Data,m.Entries):=by
  have hl:=ZdA m
  have h0:=ZlO m hn m.Entries FF 0 [] (by simp) (by simp) (by show _<4000000;omega) (by simp;omega)
  rw [show ((0:Nat):Int)=0 from rfl,List.nil_append] at h0
  have w:IntKind.wrap IntKind.i64 (((Zax m).length:Int) - 1)=(((Zax m).length - 1:Nat):Int):=by rw [IntKind.wrap_i64];omega
  have ey:(yesN m==1)=m.Yes:=by unfold yesN;cases m.Yes<;>rfl
  unfold Zdk
  rw [show (Zax m)[(0:Int).toNat]? = some (numF m.Kind) from rfl,show (Zax m)[(1:Int).toNat]? = some (numF m.From) from rfl,show (Zax m)[(2:Int).toNat]? = some (numF m.To) from rfl,show (Zax m)[(3:Int).toNat]? = some (numF m.Term) from rfl,
    show (Zax m)[(4:Int).toNat]? = some (numF m.Index) from rfl,show (Zax m)[(5:Int).toNat]? = some (numF m.LogTerm) from rfl,show (Zax m)[(6:Int).toNat]? = some (numF m.Commit) from rfl,show (Zax m)[(7:Int).toNat]? = some (numF (yesN m)) from rfl]
  simp only [Option.bind_some,List.length_map]
  rw [w,show decide ((0:Int)≤(((Zax m).length - 1:Nat):Int))=true from decide_eq_true (by omega),cond_true,Int.toNat_natCast,Zhc]
  simp only [Option.bind_some]
  rw [h0]
  simp only [Option.bind_some,numF,textF,ey]
theorem ZlL (y : Int × Bool) (n : Nat) (hn : n ≤ 127) (hy : y.1 = (n : Int)) : ∀ (k q i : Nat), i + k = n → k < q →
    ZbB FF y q (i:Int) (nineK++entK i)=some (nineK++entK n)
  | 0,q,i,hi,hq=>by
    obtain ⟨q,rfl⟩:∃ p,q=p+1:=⟨q - 1,by omega⟩
    simp only [ZbB]
    rw [hy,show decide ((i:Int)<(n:Int))=false from decide_eq_false (by omega),cond_false,show i=n by omega]
  | k+1,q,i,hi,hq=>by
    obtain ⟨q,rfl⟩:∃ p,q=p+1:=⟨q - 1,by omega⟩
    simp only [ZbB]
    rw [hy,show decide ((i:Int)<(n:Int))=true from decide_eq_true (by omega),cond_true,show decide ((nineK++entK i).length+2≤LIM)=true from decide_eq_true (by simp only [List.length_append,Zg7,nineK,List.length_cons,List.length_nil];unfold LIM;omega),cond_true,wi1 _ (by omega),List.append_assoc,Zjf]
    exact ZlL y n hn hy k q (i+1) (by omega) (by omega)
theorem Zi1:∀ (k:Nat) (p:Int) (b:List Int),Byt b→0≤(ninth k p b).1∧(ninth k p b).1<128
  | k,p,[],h=>by simp [ninth]
  | k,p,c::r,h=>by
    have hc:=h c List.mem_cons_self
    have ih:=fun k p=>Zi1 k p r fun y hy=>h y (List.mem_cons_of_mem _ hy)
    rw [ninth]
    split
    · split
      · exact ⟨hc.1,by assumption⟩
      · exact ih _ _
    · exact ih _ _
def zeroM:Zad:=Zad.mk 0 0 0 0 0 0 0 false [] []
theorem ZlK (body : List UInt8) (hL : body.length ≤ LIM) (hc : body.length < FF ∨ ∃ m, Rd (byI body) m) :
    (∃ m,Rd (byI body) m∧Zb5 FF body=some (m,0))∨((∀ m,¬ Rd (byI body) m)∧Zb5 FF body=some (zeroM,21)):=by
  have hbt:Byt (byI body):=ZjK body
  have hbl:(byI body).length≤1073741824:=by rw [Zfa];exact hL
  have hent:ZcD FF body=some (ninth 9 255 (byI body)):=by
    rcases hc with hc | ⟨m,hm⟩
    · have:=Zic body [] (by simpa using hL) hc (.inl rfl)
      simpa using this
    · obtain ⟨-,u,w,h1,h2,h3⟩:=hm.nine
      have e:body=toBytes u++toBytes w:=by
        have:=congrArg toBytes h1
        rw [Zhe] at this
        rw [this];simp [toBytes]
      have:=Zic (toBytes u) (toBytes w) (by rw [← e];exact hL) (by simp only [toBytes,List.length_map];show u.length<4000000;omega) (.inr h3)
      rw [← e] at this
      exact this
  have hnb:=Zi1 9 255 (byI body) hbt
  unfold Zb5
  rw [hent]
  simp only [Option.bind_some]
  by_cases hok:(ninth 9 255 (byI body)).2=true
  · rw [hok]
    obtain ⟨n,hn⟩:∃ n:Nat,(ninth 9 255 (byI body)).1=(n:Int):=⟨(ninth 9 255 (byI body)).1.toNat,by omega⟩
    have hl0:=ZlL (ninth 9 255 (byI body)) n (by omega) hn n FF 0 (by omega) (by show n<4000000;omega)
    simp only [entK,List.append_nil,nineK] at hl0
    rw [show ((0:Nat):Int)=0 from rfl] at hl0
    simp only [Bool.not_true,cond_false]
    rw [hl0]
    simp only [Option.bind_some]
    have hkl:=Zh6 n
    rw [show decide ((([1,1,1,1,1,1,1,1,1]:List Int)++entK n).length+1≤LIM)=true from decide_eq_true (by simp only [List.length_append,Zg7,List.length_cons,List.length_nil];unfold LIM;omega),cond_true,show decide (body.length≤LIM)=true from decide_eq_true hL,cond_true,
      show ([1,1,1,1,1,1,1,1,1]:List Int)++entK n++[3]=Zfg n from rfl,show List.map (fun (b:UInt8)=>(((UInt8.toNat b):Nat):Int)) body=byI body from rfl]
    rcases ZjI (Zfg n) (byI body) (by omega) (Zi7 n) hbt hbl with ⟨fs,h1,h2⟩ | ⟨h1,e,he,h2⟩
    · obtain ⟨a7,a8,e7,e8,p7,p8,⟨y,e9,e10⟩,hr⟩:=rd_of (by omega) h1
      have h8:a8=(n:Int):=by
        rw [e9] at hok hn
        simp only [decide_eq_true_eq] at hok hn
        rw [e10 hok] at hn;exact hn
      rw [h2]
      simp only [Option.bind_some,show ((0:Int) != (0:Int))=false from rfl,cond_false]
      cases h7:fs[7]? with
      | none=>rw [h7] at e7;cases e7
      | some f7 =>
        rw [h7] at e7
        simp only [Option.map_some,Option.some.injEq] at e7
        rw [show fs[(7:Int).toNat]? = some f7 from h7]
        simp only [Option.bind_some,e7]
        by_cases hy:a7≤1
        · obtain ⟨m,hm,hfs,hml⟩:=hr hy h8
          rw [decide_eq_false (by omega),cond_false,hn,hfs,← hml,Znq m (by omega)]
          exact .inl ⟨m,hm,rfl⟩
        · rw [decide_eq_true (by omega),cond_true]
          refine .inr ⟨fun m hm=>?_,rfl⟩
          have hm9:=hm.nine.1
          have hml:m.Entries.length=n:=by rw [hm9] at hn;simp only at hn;omega
          have hmf:=hm.flds
          rw [hml] at hmf
          have:=(ZfG h1 hmf).1
          rw [this] at h7
          have h7':(Zax m)[7]? = some (numF (yesN m)):=rfl
          rw [h7'] at h7
          injection h7 with h7
          have:=Zjt m
          rw [← h7] at e7
          simp only [numF] at e7
          omega
    · rw [h2]
      simp only [Option.bind_some,show (e != (0:Int))=true by simpa using he,cond_true]
      refine .inr ⟨fun m hm=>?_,rfl⟩
      have hm9:=hm.nine.1
      have hml:m.Entries.length=n:=by rw [hm9] at hn;simp only at hn;omega
      have hmf:=hm.flds
      rw [hml] at hmf
      exact h1 _ hmf
  · have hok:(ninth 9 255 (byI body)).2=false:=by simpa using hok
    rw [hok]
    refine .inr ⟨fun m hm=>?_,rfl⟩
    rw [hm.nine.1] at hok
    cases hok
end Go.T
set_option linter.unusedVariables false
set_option linter.unusedSimpArgs false
namespace Go.T
open Go Go.Ab
theorem Zlk (m : Zad) (y : Int × List Zac) (hy : y.2 = Zax m) (hn : m.Entries.length ≤ 127) : ∀ (r : List Zaa) (q i : Nat) (l : List Zaa), m.Entries.drop i = r → i + r.length = m.Entries.length → r.length < q → l.length + r.length ≤ 1000 →
    ZaN FF (m.Entries.length:Int) y q (i:Int) l=some (l++r)
  | [],q,i,l,hd,hi,hq,hl=>by
    obtain ⟨q,rfl⟩:∃ p,q=p+1:=⟨q - 1,by omega⟩
    simp only [List.length_nil] at hi
    simp only [ZaN]
    rw [show decide ((i:Int)<(m.Entries.length:Int))=false from decide_eq_false (by omega),cond_false]
    simp
  | e::r,q,i,l,hd,hi,hq,hl=>by
    obtain ⟨q,rfl⟩:∃ p,q=p+1:=⟨q - 1,by omega⟩
    simp only [List.length_cons] at hi hq hl
    have hf:m.Entries[i]? = some e:=by
      have:=List.getElem?_drop (xs:=m.Entries) (i:=i) (j:=0)
      rw [hd] at this;simpa using this.symm
    have hd':m.Entries.drop (i+1)=r:=by rw [← List.drop_drop,hd];rfl
    obtain ⟨h9,h10⟩:=ZhY hf
    simp only [ZaN]
    have w2:IntKind.wrap IntKind.i64 ((2:Int) * (i:Int))=((2 * i:Nat):Int):=by rw [IntKind.wrap_i64];omega
    have w9:IntKind.wrap IntKind.i64 ((9:Int)+((2 * i:Nat):Int))=((9+2 * i:Nat):Int):=by rw [IntKind.wrap_i64];omega
    have w10:IntKind.wrap IntKind.i64 ((10:Int)+((2 * i:Nat):Int))=((10+2 * i:Nat):Int):=by rw [IntKind.wrap_i64];omega
    rw [show decide ((i:Int)<(m.Entries.length:Int))=true from decide_eq_true (by omega),cond_true,w2,w9,w10,show decide ((0:Int)≤((9+2 * i:Nat):Int))=true from decide_eq_true (by omega),show decide ((0:Int)≤((10+2 * i:Nat):Int))=true from decide_eq_true (by omega),Int.toNat_natCast,Int.toNat_natCast,hy,h9,h10]
    simp only [Option.bind_some,cond_true]
    rw [show decide (l.length+1≤LIM)=true from decide_eq_true (by unfold LIM;omega),cond_true,wi1 _ (by omega),Zlk m y hy hn r q (i+1) _ hd' (by omega) (by omega) (by simp;omega)]
    simp [numF,textF]
def tupM (m:Zad) (e:Int):Int×Int×Int×Int×Int×Int×Int×Bool×List UInt8×Int×List Zaa:=(m.Kind,m.From,m.To,m.Term,m.Index,m.LogTerm,m.Commit,m.Yes,m.Data,e,m.Entries)
theorem Zld (body : List UInt8) (hL : body.length ≤ 1048576) : ∀ (k n q : Nat), n + k = 128 → k < q →
    (∃ m,Rd (byI body) m∧Zaq FF body q (n:Int) (nineK++entK n)=some (.inl (tupM m 0)))∨((∀ m,Rd (byI body) m→m.Entries.length<n)∧Zaq FF body q (n:Int) (nineK++entK n)=some (.inr ()))
  | 0,n,q,hn,hq=>by
    obtain ⟨q,rfl⟩:∃ p,q=p+1:=⟨q - 1,by omega⟩
    refine .inr ⟨fun m hm=>by have:=hm.1;omega,?_⟩
    simp only [Zaq]
    rw [decide_eq_false (by omega)]
    rfl
  | k+1,n,q,hn,hq=>by
    obtain ⟨q,rfl⟩:∃ p,q=p+1:=⟨q - 1,by omega⟩
    have hbl:(byI body).length≤1048576:=by rw [Zfa];exact hL
    have hkl:=Zh6 n
    have hel:=Zg7 n
    have hnl:(nineK++entK n).length=9+2 * n:=by simp only [List.length_append,hel,nineK,List.length_cons,List.length_nil]
    simp only [Zaq]
    rw [decide_eq_true (show (n:Int)≤127 by omega),cond_true]
    simp only [Option.bind_some]
    by_cases hb:n≤body.length
    · have h1:=Zld body hL k (n+1) q (by omega) (by omega)
      rw [decide_eq_true (show (n:Int)≤(body.length:Int) by omega),cond_true,show decide (0+(nineK++entK n).length≤LIM)=true from decide_eq_true (by unfold LIM;omega),cond_true,show decide ((nineK++entK n).length+1≤LIM)=true from decide_eq_true (by unfold LIM;omega),cond_true,
        show decide (body.length≤LIM)=true from decide_eq_true (by unfold LIM;omega),cond_true,show decide ((nineK++entK n).length+1+1≤LIM)=true from decide_eq_true (by unfold LIM;omega),List.nil_append,show nineK++entK n++[3]=Zfg n from rfl,show List.map (fun (b:UInt8)=>(((UInt8.toNat b):Nat):Int)) body=byI body from rfl,wi1 _ (by omega),
        show nineK++entK n++[1]++[3]=nineK++entK (n+1) by rw [← Zjf];simp]
      have more:(∀ m,Rd (byI body) m→m.Entries.length≠n)→(∃ m,Rd (byI body) m∧Zaq FF body q ((n+1:Nat):Int) (nineK++entK (n+1))=some (.inl (tupM m 0)))∨((∀ m,Rd (byI body) m→m.Entries.length<n)∧Zaq FF body q ((n+1:Nat):Int) (nineK++entK (n+1))=some (.inr ())):=by
        intro h
        rcases h1 with h1 | ⟨h1,h2⟩
        · exact .inl h1
        · exact .inr ⟨fun m hm=>by have:=h1 m hm;have:=h m hm;omega,h2⟩
      rcases ZiR (Zfg n) (byI body) (by omega) (Zi7 n) (ZjK body) hbl with ⟨fs,h2,h3⟩ | ⟨h2,e,he,h3⟩
      · obtain ⟨a7,a8,e7,e8,p7,p8,-,hr⟩:=rd_of (by omega) h2
        rw [h3]
        simp only [Option.bind_some,show ((0:Int)==(0:Int))=true from rfl,cond_true]
        cases h7:fs[7]? with
        | none=>rw [h7] at e7;cases e7
        | some f7 =>
          cases h8:fs[8]? with
          | none=>rw [h8] at e8;cases e8
          | some f8 =>
            rw [h7] at e7;rw [h8] at e8
            simp only [Option.map_some,Option.some.injEq] at e7 e8
            rw [show fs[(7:Int).toNat]? = some f7 from h7,show fs[(8:Int).toNat]? = some f8 from h8]
            simp only [Option.bind_some,e7,e8]
            have no:¬ (a8=(n:Int)∧a7≤1)→∀ m,Rd (byI body) m→m.Entries.length≠n:=by
              intro h m hm hml
              have hmf:=hm.flds
              rw [hml] at hmf
              have hq:=(ZfG h2 hmf).1
              rw [hq] at h7 h8
              have h7':(Zax m)[7]? = some (numF (yesN m)):=rfl
              have h8':(Zax m)[8]? = some (numF (m.Entries.length:Int)):=rfl
              rw [h7'] at h7;rw [h8'] at h8
              injection h7 with h7;injection h8 with h8
              have:=Zjt m
              rw [← h7] at e7;rw [← h8] at e8
              simp only [numF] at e7 e8
              exact h ⟨by omega,by omega⟩
            by_cases hy:a8=(n:Int)
            · rw [show (a8==(n:Int))=true by simpa using hy,cond_true]
              simp only [Option.bind_some]
              by_cases h71:a7≤1
              · obtain ⟨m,hm,hfs,hml⟩:=hr h71 hy
                have hlw:=ZdA m
                have hl1:=Zlk m (0,fs) hfs (by omega) m.Entries FF 0 [] (by simp) (by simp) (by show _<4000000;omega) (by simp;omega)
                rw [show ((0:Nat):Int)=0 from rfl,List.nil_append,hml] at hl1
                have w:IntKind.wrap IntKind.i64 (((Zax m).length:Int) - 1)=(((Zax m).length - 1:Nat):Int):=by rw [IntKind.wrap_i64];omega
                have ey:(yesN m==1)=m.Yes:=by unfold yesN;cases m.Yes<;>rfl
                have e77:a7=yesN m:=by
                  rw [hfs,show (Zax m)[7]? = some (numF (yesN m)) from rfl] at h7
                  injection h7 with h7
                  rw [← e7,← h7];rfl
                rw [decide_eq_true (show a7<2 by omega),cond_true,hl1,hfs,e77,
                  show (Zax m)[(0:Int).toNat]? = some (numF m.Kind) from rfl,show (Zax m)[(1:Int).toNat]? = some (numF m.From) from rfl,show (Zax m)[(2:Int).toNat]? = some (numF m.To) from rfl,show (Zax m)[(3:Int).toNat]? = some (numF m.Term) from rfl,
                  show (Zax m)[(4:Int).toNat]? = some (numF m.Index) from rfl,show (Zax m)[(5:Int).toNat]? = some (numF m.LogTerm) from rfl,show (Zax m)[(6:Int).toNat]? = some (numF m.Commit) from rfl]
                simp only [Option.bind_some,List.length_map]
                rw [w,show decide ((0:Int)≤(((Zax m).length - 1:Nat):Int))=true from decide_eq_true (by omega),cond_true,Int.toNat_natCast,Zhc]
                simp only [Option.bind_some,Sum.elim_inl]
                refine .inl ⟨m,hm,?_⟩
                simp only [numF,textF,ey];rfl
              · rw [decide_eq_false (by omega),cond_false]
                simp only [Option.bind_some,cond_true,Sum.elim_inr]
                exact more (no fun h=>h71 h.2)
            · rw [show (a8==(n:Int))=false from beq_false_of_ne hy,cond_false]
              simp only [Option.bind_some,cond_false,cond_true,Sum.elim_inr]
              exact more (no fun h=>hy h.1)
      · rw [h3]
        simp only [Option.bind_some,show (e==(0:Int))=false from beq_false_of_ne he,cond_false,cond_true,Sum.elim_inr]
        refine more fun m hm hml=>?_
        have hmf:=hm.flds
        rw [hml] at hmf
        exact h2 _ hmf
    · rw [decide_eq_false (by omega)]
      refine .inr ⟨fun m hm=>?_,rfl⟩
      have:=Zhz hm.2.2
      rw [ZdA,Zfa] at this
      omega
theorem Zlc (body : List UInt8) (hL : body.length ≤ 1048576) :
    (∃ m,Rd (byI body) m∧Zbk FF body=some (tupM m 0))∨((∀ m,¬ Rd (byI body) m)∧Zbk FF body=some (tupM zeroM 21)):=by
  unfold Zbk
  have h:=Zld body hL 128 0 FF rfl (by decide)
  simp only [entK,List.append_nil,nineK] at h
  rw [show ((0:Nat):Int)=0 from rfl] at h
  rcases h with ⟨m,h1,h2⟩ | ⟨h1,h2⟩
  · rw [h2];exact .inl ⟨m,h1,rfl⟩
  · rw [h2];exact .inr ⟨fun m hm=>by have:=h1 m hm;omega,rfl⟩
theorem ZlU (a:List Zaa) (hL:a.length≤LIM):∀ (k q i:Nat),i+k=a.length→k<q→ZaJ FF a a q (i:Int)=some (.inr ())
  | 0,q,i,hi,hq=>by
    obtain ⟨q,rfl⟩:∃ p,q=p+1:=⟨q - 1,by omega⟩
    simp only [ZaJ]
    rw [decide_eq_false (by omega)];rfl
  | k+1,q,i,hi,hq=>by
    obtain ⟨q,rfl⟩:∃ p,q=p+1:=⟨q - 1,by omega⟩
    unfold LIM at hL
    have hil:i<a.length:=by omega
    simp only [ZaJ]
    rw [show decide ((i:Int)<(a.length:Int))=true from decide_eq_true (by omega),cond_true,show decide ((0:Int)≤(i:Int))=true from decide_eq_true (by omega),Int.toNat_natCast,List.getElem?_eq_getElem hil]
    simp only [Option.bind_some,cond_true,beq_self_eq_true,Bool.and_true,Bool.not_true,cond_false]
    rw [wi1 _ (by omega)]
    exact ZlU a (by unfold LIM;omega) k q (i+1) (by omega) (by omega)
theorem Ziu (a:Zad) (h:a.Entries.length≤1048576):ZaH FF a a=some true:=by
  have h0:=ZlU a.Entries (by unfold LIM;omega) a.Entries.length FF 0 (by simp) (by show _<4000000;omega)
  rw [show ((0:Nat):Int)=0 from rfl] at h0
  unfold ZaH Zb9
  simp only [beq_self_eq_true,cond_true,bne_self_eq_false,cond_false]
  rw [h0]
  simp
theorem Zmb {m:Zad} (hok:okM m) (h:wireS m≠[]):Rd (byI (wireS m)) m∧(wireS m).length≤LIM:=by
  unfold wireS at h ⊢
  split at h
  · exact absurd rfl h
  · rename_i hn
    rw [if_neg hn]
    split at h
    · rename_i b hb
      have hbt:=Zgn hb
      have hl:=Zhz hb
      rw [ZdA] at hl
      rw [ZhG hbt]
      refine ⟨⟨by omega,hok,hb⟩,?_⟩
      simp only [toBytes,List.length_map];unfold LIM;omega
    · exact absurd rfl h
theorem Zmj {b:List UInt8} {m:Zad} (h:Rd (byI b) m):wireS m=b:=by
  obtain ⟨h1,h2,h3⟩:=h
  unfold wireS
  rw [if_neg (by omega),h3]
  exact Zhe b
end Go.T
set_option linter.unusedVariables false
set_option maxRecDepth 200000
namespace Go.T
open Go Go.Ab
theorem ZmE:ZbX FF=some true:=by
  show ZbX 4000000=some true
  kernel_rfl
theorem ZnS {B:Nat} {m:Zad} (h:Zad.ok B m):okM m:=by
  obtain ⟨h1,h2,h3,h4,h5,h6,h7,-,h8,-⟩:=h
  have k:∀ {x:Int},okI IntKind.i64 x→x<9223372036854775808:=fun h=>by
    have:=(Znj h).2;omega
  exact ⟨k h1,k h2,k h3,k h4,k h5,k h6,k h7,fun e he=>k (h8.2 e he).1⟩
theorem Zku (m : Zad) (hok : okM m) (hn : m.Entries.length ≤ 1048576) :
    (bif (!(wireS m==([]:List UInt8))) then
      (Option.bind (Zb5 FF (wireS m)) fun y_12 =>
        (Option.bind (bif (y_12.2 != (0:Int)) then some true else (Option.bind (ZaH FF y_12.1 m) fun y_15=>some (!y_15))) fun t =>
          (bif t then some (Sum.inl false) else some (Sum.inr ()))))
      else some (Sum.inr ():Bool ⊕ Unit))=some (Sum.inr ()):=by
  by_cases h:wireS m=[]
  · rw [h];rfl
  · have hb:(wireS m==([]:List UInt8))=false:=by simpa using h
    obtain ⟨hr,hl⟩:=Zmb hok h
    rw [hb]
    simp only [Bool.not_false,cond_true]
    rcases ZlK (wireS m) hl (.inr ⟨m,hr⟩) with ⟨m',hr',hu⟩ | ⟨hno,_⟩
    · obtain rfl:=hr.uniq hr'
      rw [hu]
      simp only [Option.bind_some,bne_self_eq_false,cond_false,Ziu m hn,Bool.not_true]
    · exact absurd hr (hno m)
theorem ZhK (m:Zad) (body:List UInt8) (hm:Zad.ok 1048576 m) (hb:body.length≤1048576):ZbE FF m body=some true:=by
  have hok:=ZnS hm
  have hn:m.Entries.length≤1048576:=hm.2.2.2.2.2.2.2.2.1.1
  have hback:=Zku m hok hn
  have hL:body.length≤LIM:=by unfold LIM;omega
  unfold ZbE
  rw [ZmE,Zkd m hok,Zmh m hok]
  simp only [Option.bind_some,Bool.not_true,cond_false,beq_self_eq_true]
  rw [hback]
  rcases ZlK body hL (.inl (show body.length<4000000 by omega)) with ⟨a,ha,hg⟩ | ⟨hno,hg⟩
  · rcases Zlc body hb with ⟨a',ha',hr⟩ | ⟨hno',_⟩
    · obtain rfl:=ha.uniq ha'
      have hs:ZaH FF a (Zad.mk a.Kind a.From a.To a.Term a.Index a.LogTerm a.Commit a.Yes a.Entries a.Data)=some true:=Ziu a (by have:=ha.1;omega)
      rw [hg,hr]
      simp only [Option.bind_some,tupM,bne_self_eq_false,cond_false,hs,Bool.not_true,Sum.elim_inr,Zkd a ha.2.1,Zmj ha,beq_self_eq_true]
    · exact absurd ha (hno' a)
  · rcases Zlc body hb with ⟨a',ha',_⟩ | ⟨hno',hr⟩
    · exact absurd ha' (hno a')
    · have hs:ZaH FF zeroM (Zad.mk zeroM.Kind zeroM.From zeroM.To zeroM.Term zeroM.Index zeroM.LogTerm zeroM.Commit zeroM.Yes zeroM.Entries zeroM.Data)=some true:=Ziu zeroM (by decide)
      rw [hg,hr]
      simp only [Option.bind_some,tupM,bne_self_eq_false,cond_false,hs,Bool.not_true,Sum.elim_inr]
      rfl
end Go.T
