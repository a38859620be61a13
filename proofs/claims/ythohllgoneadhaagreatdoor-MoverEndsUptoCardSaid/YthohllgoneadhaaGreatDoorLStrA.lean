import Derived.Test.YthohllgoneadhaaGreatDoorAbI
import Derived.Lib.Index
/-
  LStrA: texts cut at blanks,and at one byte,as lists.
-/
namespace Go.Ab
open Go
def Zgw (c:UInt8):Bool:=c==32 || c==9
def ZcW:List UInt8→List UInt8→List (List UInt8)
  | [],cur=>if cur=[] then [] else [cur]
  | c::r,cur=>if Zgw c then (if cur=[] then ZcW r [] else cur::ZcW r []) else ZcW r (cur++[c])
def ZcL (c:UInt8):List UInt8→List UInt8→List (List UInt8)
  | [],cur=>[cur]
  | x::r,cur=>if x=c then cur::ZcL c r [] else ZcL c r (cur++[x])
theorem ZmT (x r cur:List UInt8) (h:∀ c,c∈x→Zgw c=false):ZcW (x++r) cur=ZcW r (cur++x):=by
  induction x generalizing cur with
  | nil=>simp
  | cons c x ih =>
    rw [List.cons_append,ZcW,h c List.mem_cons_self,if_neg (by decide),ih _ fun d hd=>h d (List.mem_cons_of_mem _ hd)]
    simp
theorem ZjK (c:UInt8) (x r cur:List UInt8) (h:c ∉ x):ZcL c (x++r) cur=ZcL c r (cur++x):=by
  induction x generalizing cur with
  | nil=>simp
  | cons d x ih =>
    rw [List.cons_append,ZcL,if_neg (by intro e;subst e;exact h List.mem_cons_self),ih _ fun hd=>h (List.mem_cons_of_mem _ hd)]
    simp
theorem Zi0 (c:UInt8) (y:List UInt8):∀ (x cur:List UInt8),ZcL c (x++c::y) cur=ZcL c x cur++ZcL c y []:=by
  intro x
  induction x with
  | nil=>intro cur;simp [ZcL]
  | cons d x ih =>
    intro cur
    rw [List.cons_append,ZcL,ZcL]
    by_cases h:d=c
    · rw [if_pos h,if_pos h,ih];rfl
    · rw [if_neg h,if_neg h,ih]
theorem Zg0 (s:ByteArray) (a b:Nat):(s.extract a b).data.toList=(s.data.toList.take b).drop a:=by
  rw [ByteArray.data_extract,Array.toList_extract,List.extract_eq_take_drop,← List.drop_take]
theorem Zig (c:UInt8):∀ l:List UInt8,(c ∉ l∧Lib.index l [c] = -1)∨∃ p r,l=p++c::r∧c ∉ p∧Lib.index l [c]=(p.length:Int):=by
  intro l
  induction l with
  | nil=>exact .inl ⟨by simp,rfl⟩
  | cons b l ih =>
    by_cases hb:b=c
    · subst hb
      refine .inr ⟨[],l,rfl,by simp,?_⟩
      simp [Lib.index,List.isPrefixOf]
    · have e:Lib.index (b::l) [c]=if Lib.index l [c] == -1 then -1 else Lib.index l [c]+1:=by
        have:(c==b)=false:=by simpa using fun e=>hb e.symm
        simp [Lib.index,List.isPrefixOf,this]
      rcases ih with ⟨h1,h2⟩ | ⟨p,r,rfl,h1,h2⟩
      · refine .inl ⟨?_,by rw [e,h2];rfl⟩
        intro h
        rcases List.mem_cons.1 h with h | h
        · exact hb h.symm
        · exact h1 h
      · refine .inr ⟨b::p,r,rfl,?_,?_⟩
        · intro h
          rcases List.mem_cons.1 h with h | h
          · exact hb h.symm
          · exact h1 h
        · rw [e,h2]
          have:((p.length:Int) == -1)=false:=by simp
          rw [this]
          simp
theorem Zqm (c:UInt8) (l:List UInt8):(c ∉ l∧Lib.cut l [c]=(l,[],false))∨∃ p r,l=p++c::r∧c ∉ p∧Lib.cut l [c]=(p,r,true):=by
  unfold Lib.cut
  rcases Zig c l with ⟨h1,h2⟩ | ⟨p,r,rfl,h1,h2⟩
  · exact .inl ⟨h1,by rw [h2];rfl⟩
  · refine .inr ⟨p,r,rfl,h1,?_⟩
    rw [h2,if_pos (by omega),Int.toNat_natCast]
    simp
theorem Zm2 (c:UInt8):∀ (n:Nat) (l:List UInt8),l.length≤n→ZgL l [c]=ZcL c l []:=by
  intro n
  induction n with
  | zero =>
    intro l hl
    have:l=[]:=List.eq_nil_of_length_eq_zero (by omega)
    subst this
    rcases Zig c [] with ⟨h1,h2⟩ | ⟨p,r,h,_⟩
    · have hm:Lib.indexB (bs []) (bs [c]) = -1:=by
        show Lib.index _ _ = -1
        rw [Zdg,Zdg];exact h2
      unfold ZgL
      rw [Lib.countB_miss _ _ hm,Lib.splitB_zero]
      simp [Zdg,ZcL]
    · simp at h
  | succ n ih =>
    intro l hl
    unfold ZgL
    rcases Zig c l with ⟨h1,h2⟩ | ⟨p,r,rfl,h1,h2⟩
    · have hm:Lib.indexB (bs l) (bs [c]) = -1:=by
        show Lib.index _ _ = -1
        rw [Zdg,Zdg];exact h2
      rw [Lib.countB_miss _ _ hm,Lib.splitB_zero]
      have:=ZjK c l [] [] h1
      rw [List.append_nil] at this
      rw [this]
      simp [Zdg,ZcL]
    · have hm:Lib.indexB (bs (p++c::r)) (bs [c])=(p.length:Int):=by
        show Lib.index _ _=_
        rw [Zdg,Zdg];exact h2
      have hs1:(bs [c]).size=1:=by rw [Zew];rfl
      have he:(bs (p++c::r)).extract (p.length+(bs [c]).size) (bs (p++c::r)).size=bs r:=by
        rw [← Zk5 ((bs (p++c::r)).extract _ _),Zg0,Zdg]
        simp only [Zew]
        congr 1
        rw [List.take_of_length_le (Nat.le_refl _)]
        simp
      rw [Lib.countB_hit _ _ _ (by rw [hs1];exact Nat.le_refl _) hm,Nat.add_comm 1,Lib.splitB_hit _ _ _ _ _ hm,he,Zi0]
      have:=ZjK c p [] [] h1
      rw [List.append_nil] at this
      rw [this,List.map_cons]
      have hr:=ih r (by simp at hl;omega)
      unfold ZgL at hr
      rw [hr,Zg0,Zdg]
      simp [ZcL]
theorem Zo5 (s:ByteArray) (i:Nat):s.get! i=s.data.toList.getD i 0:=by
  show s.data[i]! = _
  rw [List.getD_eq_getElem?_getD,Array.getElem?_toList,getElem!_def]
  cases s.data[i]?<;>rfl
theorem Zpg (s : ByteArray) (pos : Nat) (h : pos < s.size) : 1 ≤ (Utf8.decode s pos).2 ∧ pos + (Utf8.decode s pos).2 ≤ s.size ∧
    (∀ j,0<j→j<(Utf8.decode s pos).2→128≤(s.data.toList.getD (pos+j) 0).toNat) ∧
    ((s.data.toList.getD pos 0).toNat<128→Utf8.decode s pos=((s.data.toList.getD pos 0).toNat,1))∧(128≤(s.data.toList.getD pos 0).toNat→128≤(Utf8.decode s pos).1):=by
  have e:∀ k,(s.get! (pos+k)).toNat=(s.data.toList.getD (pos+k) 0).toNat:=fun k=>by rw [Zo5]
  unfold Utf8.decode
  have e00:(s.get! pos).toNat=(s.data.toList.getD pos 0).toNat:=e 0
  simp only [Nat.add_zero,e00,e]
  generalize hg:(fun k=>(s.data.toList.getD (pos+k) 0).toNat)=g
  have e2:∀ k,(s.data.toList.getD (pos+k) 0).toNat=g k:=fun k=>by rw [← hg]
  have e0:(s.data.toList.getD pos 0).toNat=g 0:=e2 0
  simp only [e2,e0,Utf8.runeError]
  by_cases a0:g 0<128
  · rw [if_pos a0];exact ⟨by simp,h,fun j h1 h2=>by simp at h2;omega,fun _=>rfl,fun q=>absurd a0 (by omega)⟩
  · rw [if_neg a0]
    have one:∀ r,128≤r→1≤((r,1):Nat×Nat).2∧pos+((r,1):Nat×Nat).2≤s.size∧(∀ j,0<j→j<((r,1):Nat×Nat).2→128≤g j)∧(g 0<128→((r,1):Nat×Nat)=(g 0,1))∧(128≤g 0→128≤((r,1):Nat×Nat).1):=fun r hr =>
      ⟨Nat.le_refl _,h,fun j h1 h2=>by simp at h2;omega,fun q=>absurd q a0,fun _=>hr⟩
    split
    · rename_i hc
      simp only [Bool.and_eq_true,decide_eq_true_eq,beq_iff_eq] at hc
      split
      · refine ⟨by simp,by simp;omega,fun j h1 h2=>?_,fun q=>absurd q a0,fun _=>by simp;omega⟩
        simp at h2
        have:j=1:=by omega
        subst this;omega
      · exact one _ (by decide)
    · split
      · rename_i hc
        simp only [Bool.and_eq_true,decide_eq_true_eq,beq_iff_eq] at hc
        split
        · rename_i hv
          refine ⟨by simp,by simp;omega,fun j h1 h2=>?_,fun q=>absurd q a0,fun _=>by simp at hv ⊢;omega⟩
          simp at h2
          have:j=1∨j=2:=by omega
          rcases this with rfl | rfl<;>omega
        · exact one _ (by decide)
      · split
        · rename_i hc
          simp only [Bool.and_eq_true,decide_eq_true_eq,beq_iff_eq] at hc
          split
          · rename_i hv
            refine ⟨by simp,by simp;omega,fun j h1 h2=>?_,fun q=>absurd q a0,fun _=>by simp at hv ⊢;omega⟩
            simp at h2
            have:j=1∨j=2∨j=3:=by omega
            rcases this with rfl | rfl | rfl<;>omega
          · exact one _ (by decide)
        · exact one _ (by decide)
theorem ZiV (b:UInt8):ZeU b.toNat=Zgw b:=by
  have h:∀ n:Nat,n<256→ZeU n=Zgw (UInt8.ofNat n):=by decide +kernel
  have:=h b.toNat (UInt8.toNat_lt b)
  rwa [UInt8.ofNat_toNat] at this
def curS (l:List UInt8) (st:Option Nat) (pos:Nat):List UInt8:=match st with | none=>[] | some a=>(l.take pos).drop a
theorem ZkN (s : ByteArray) : ∀ (f pos : Nat) (st : Option Nat) (acc : List (Nat × Nat)), s.size - pos ≤ f → pos ≤ s.size → (∀ a, st = some a → a < pos) →
    (Lib.closeSpans s (Lib.spansFromP ZeU s f pos st acc)).map (fun x=>(s.extract x.1 x.2).data.toList)=acc.map (fun x=>(s.extract x.1 x.2).data.toList)++ZcW (s.data.toList.drop pos) (curS s.data.toList st pos):=by
  have hsz:s.size=s.data.toList.length:=by show s.data.size=_;exact Array.length_toList.symm
  intro f
  induction f with
  | zero =>
    intro pos st acc h1 h2 h3
    have:pos=s.size:=by omega
    subst this
    rw [List.drop_eq_nil_of_le (by omega)]
    unfold Lib.spansFromP Lib.closeSpans
    cases st with
    | none=>simp [ZcW,curS]
    | some a =>
      have ha:=h3 a rfl
      have hne:(s.data.toList.take s.size).drop a≠[]:=by
        intro e
        have:=congrArg List.length e
        simp at this
        omega
      rw [ZcW,if_neg (show curS s.data.toList (some a) s.size≠[] from hne)]
      simp only [List.map_append,List.map_cons,List.map_nil,Zg0]
      rfl
  | succ f ih =>
    intro pos st acc h1 h2 h3
    unfold Lib.spansFromP
    by_cases hp:pos<s.size
    · rw [if_pos hp]
      obtain ⟨d1,d2,d3,d4,d5⟩:=Zpg s pos hp
      have hlp:pos<s.data.toList.length:=by omega
      have hb:s.data.toList.getD pos 0=s.data.toList[pos]:=by rw [List.getD_eq_getElem?_getD,List.getElem?_eq_getElem hlp,Option.getD_some]
      have hdrop:s.data.toList.drop pos=s.data.toList[pos]::s.data.toList.drop (pos+1):=(List.drop_eq_getElem_cons hlp)
      generalize hw:(Utf8.decode s pos).2=w at d1 d2 d3
      by_cases hbl:Zgw s.data.toList[pos]=true
      · have h128:(s.data.toList.getD pos 0).toNat<128:=by
          rw [hb]
          unfold Zgw at hbl
          simp only [Bool.or_eq_true,beq_iff_eq] at hbl
          rcases hbl with e | e<;>rw [e]<;>decide
        have hd:=d4 h128
        have hw1:w=1:=by rw [← hw,hd]
        subst hw1
        have hP:ZeU (Utf8.decode s pos).1=true:=by rw [hd,hb,ZiV];exact hbl
        rw [if_pos hP,hdrop,ZcW,if_pos hbl]
        cases st with
        | none =>
          simp only [curS,if_pos]
          rw [ih _ _ _ (by omega) (by omega) (fun a h=>by cases h)]
          rfl
        | some a =>
          have ha:=h3 a rfl
          have hne:(s.data.toList.take pos).drop a≠[]:=by
            intro e
            have:=congrArg List.length e
            simp at this
            omega
          rw [if_neg (show curS s.data.toList (some a) pos≠[] from hne)]
          show List.map _ (Lib.closeSpans s (Lib.spansFromP ZeU s f (pos+1) none (acc++[(a,pos)])))=_
          rw [ih _ _ _ (by omega) (by omega) (fun a h=>by cases h)]
          simp only [List.map_append,List.map_cons,List.map_nil,Zg0,List.append_assoc]
          rfl
      · have hbl:Zgw s.data.toList[pos]=false:=by simpa using hbl
        have hP:ZeU (Utf8.decode s pos).1=false:=by
          by_cases h128:(s.data.toList.getD pos 0).toNat<128
          · rw [d4 h128,hb,ZiV];exact hbl
          · have:=d5 (by omega)
            unfold ZeU
            have a:((Utf8.decode s pos).1==32)=false:=by simp;omega
            have b:((Utf8.decode s pos).1==9)=false:=by simp;omega
            rw [a,b];rfl
        rw [if_neg (by rw [hP];decide)]
        have hnob:∀ c,c∈(s.data.toList.drop pos).take w→Zgw c=false:=by
          intro c hc
          obtain ⟨j,hj,rfl⟩:=List.mem_iff_getElem.1 hc
          rw [List.getElem_take,List.getElem_drop]
          simp only [List.length_take,List.length_drop] at hj
          by_cases hj0:j=0
          · subst hj0;exact hbl
          · have:=d3 j (by omega) (by omega)
            have e:s.data.toList.getD (pos+j) 0=s.data.toList[pos+j]:=by rw [List.getD_eq_getElem?_getD,List.getElem?_eq_getElem,Option.getD_some]
            rw [e] at this
            unfold Zgw
            have hn:∀ k:UInt8,k.toNat<128→(s.data.toList[pos+j]==k)=false:=fun k hk=>by
              rw [beq_eq_false_iff_ne]
              intro q;rw [q] at this;omega
            rw [hn 32 (by decide),hn 9 (by decide)];rfl
        have hsplit:s.data.toList.drop pos=(s.data.toList.drop pos).take w++s.data.toList.drop (pos+w):=by
          rw [← List.drop_drop];exact (List.take_append_drop w _).symm
        rw [hsplit,ZmT _ _ _ hnob]
        have hcur:∀ a,a≤pos→(s.data.toList.take (pos+w)).drop a=(s.data.toList.take pos).drop a++(s.data.toList.drop pos).take w:=by
          intro a ha
          rw [← List.drop_append_of_le_length (by simp;omega)]
          congr 1
          rw [List.take_add]
        cases st with
        | none =>
          simp only []
          rw [ih _ _ _ (by omega) (by omega) (fun a h=>by cases h;omega)]
          simp only [curS]
          rw [hcur pos (Nat.le_refl _)]
          simp
        | some a =>
          simp only []
          have ha:=h3 a rfl
          rw [ih _ _ _ (by omega) (by omega) (fun b h=>by cases h;omega)]
          simp only [curS]
          rw [hcur a (by omega)]
    · rw [if_neg hp]
      have:pos=s.size:=by omega
      subst this
      rw [List.drop_eq_nil_of_le (by omega)]
      unfold Lib.closeSpans
      cases st with
      | none=>simp [ZcW,curS]
      | some a =>
        have ha:=h3 a rfl
        have hne:(s.data.toList.take s.size).drop a≠[]:=by
          intro e
          have:=congrArg List.length e
          simp at this
          omega
        rw [ZcW,if_neg (show curS s.data.toList (some a) s.size≠[] from hne)]
        simp only [List.map_append,List.map_cons,List.map_nil,Zg0]
        rfl
theorem Zkn (l:List UInt8):ZfF ZeU l=ZcW l []:=by
  unfold ZfF Lib.goFieldsP Lib.spansOfP
  rw [List.map_map]
  have:=ZkN (bs l) (bs l).size 0 none [] (by omega) (by omega) (fun a h=>by cases h)
  simp only [List.map_nil,List.nil_append,Zdg,List.drop_zero,curS] at this
  exact this
end Go.Ab
