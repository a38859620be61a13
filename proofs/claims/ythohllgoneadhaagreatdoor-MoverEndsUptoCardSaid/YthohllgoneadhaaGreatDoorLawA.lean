import Derived.Test.YthohllgoneadhaaGreatDoorSem
set_option linter.unusedVariables false
set_option linter.unusedSimpArgs false
namespace Go.T
open Go Go.Ab
abbrev FM:Nat:=4000000
def SrtId (l:List Zaa):Prop:=l.Pairwise fun a b=>a.Id<b.Id
theorem mc (n:Nat):((n:Int)).toNat=n:=by omega
theorem mg0 (n:Nat):decide ((0:Int)≤(n:Int))=true:=by simp
theorem mwa (i:Nat) (h:i<9000000000000000000):IntKind.wrap IntKind.i64 ((i:Int)+1)=((i+1:Nat):Int):=by rw [IntKind.wrap_i64];omega
theorem mmid (i j:Nat) (h:i+j<4611686018427387904):IntKind.wrap IntKind.i64 (@Int.fdiv (IntKind.wrap IntKind.u64 (IntKind.wrap IntKind.i64 ((i:Int)+(j:Int)))) ((2:Int) ^ (min (Int.toNat (1:Int)) 64)))=(((i+j) / 2:Nat):Int):=by
  have h1:IntKind.wrap IntKind.i64 ((i:Int)+(j:Int))=((i+j:Nat):Int):=by rw [IntKind.wrap_i64];omega
  have h2:IntKind.wrap IntKind.u64 ((i+j:Nat):Int)=((i+j:Nat):Int):=by rw [IntKind.wrap_u64];omega
  rw [h1,h2,show ((2:Int) ^ (min (Int.toNat (1:Int)) 64))=((2:Nat):Int) from rfl,Int.fdiv_eq_ediv_of_nonneg _ (by omega),IntKind.wrap_i64]
  omega
theorem Zoa (a b:Int):Zct FM a b=some (if a<b then -1 else if b<a then 1 else 0):=by
  unfold Zct ZdL
  by_cases h1:a<b
  · simp [h1]
  · by_cases h2:b<a
    · simp [h1,h2]
    · have:a=b:=by omega
      subst this
      simp
theorem Zjn (s:Zaa) (id:Int):ZbN FM s id=some (if s.Id<id then -1 else if id<s.Id then 1 else 0):=by
  unfold ZbN
  rw [Zoa];rfl
theorem bs_l0 (l : List Zaa) (id : Int) (hl : l.length ≤ 1000) (hs : SrtId l) : ∀ (d i j m : Nat), j - i ≤ d → i ≤ j → j ≤ l.length → d < m → (∀ k (h : k < l.length), k < i → (l[k]).Id < id) → (∀ k (h : k < l.length), j ≤ k → id ≤ (l[k]).Id) →
    ∃ r:Nat,Zaj FM l id m (i:Int) (j:Int)=some (r:Int)∧r≤l.length∧(∀ k (h:k<l.length),k<r→(l[k]).Id<id)∧(∀ k (h:k<l.length),r≤k→id≤(l[k]).Id):=by
  intro d
  have hp:=List.pairwise_iff_getElem.1 hs
  induction d with
  | zero =>
    intro i j m hd hij hj hm h1 h2
    obtain ⟨m,rfl⟩:∃ k,m=k+1:=⟨m - 1,by omega⟩
    refine ⟨i,?_,by omega,h1,fun k h hk=>h2 k h (by omega)⟩
    unfold Zaj
    rw [decide_eq_false (by omega),cond_false]
  | succ d ih =>
    intro i j m hd hij hj hm h1 h2
    obtain ⟨m,rfl⟩:∃ k,m=k+1:=⟨m - 1,by omega⟩
    by_cases hlt:i<j
    · have hh:(i+j) / 2<l.length:=by omega
      unfold Zaj
      rw [decide_eq_true (by omega),cond_true]
      simp only [mmid i j (by omega),mg0,cond_true,mc]
      rw [List.getElem?_eq_getElem hh,Option.bind_some,Zjn,Option.bind_some,mwa _ (by omega)]
      by_cases hc:(l[(i+j) / 2]).Id<id
      · rw [if_pos hc,show decide ((-1:Int)<0)=true from rfl,cond_true]
        refine ih ((i+j) / 2+1) j m (by omega) (by omega) hj (by omega) (fun k h hk=>?_) h2
        rcases Nat.lt_or_ge k ((i+j) / 2) with q | q
        · have:=hp k ((i+j) / 2) h hh q
          omega
        · have:k=(i+j) / 2:=by omega
          subst this;exact hc
      · have hd2:decide ((if (l[(i+j) / 2]).Id<id then (-1:Int) else if id<(l[(i+j) / 2]).Id then 1 else 0)<0)=false:=by
          rw [if_neg hc]
          split<;>rfl
        rw [hd2,cond_false]
        refine ih i ((i+j) / 2) m (by omega) (by omega) (by omega) (by omega) h1 (fun k h hk=>?_)
        rcases Nat.lt_or_ge ((i+j) / 2) k with q | q
        · have:=hp ((i+j) / 2) k hh h q
          omega
        · have:k=(i+j) / 2:=by omega
          subst this;omega
    · refine ⟨i,?_,by omega,h1,fun k h hk=>h2 k h (by omega)⟩
      unfold Zaj
      rw [decide_eq_false (by omega),cond_false]
theorem Zf3 (l : List Zaa) (id : Int) (hl : l.length ≤ 1000) (hs : SrtId l) :
    (∃ (i:Nat) (h:i<l.length),(l[i]).Id=id∧ZaR FM id l=some ((i:Int),true)) ∨
    (∃ i:Nat,i≤l.length∧ZaR FM id l=some ((i:Int),false)∧(∀ k (h:k<l.length),k<i→(l[k]).Id<id)∧(∀ k (h:k<l.length),i≤k→id<(l[k]).Id)):=by
  obtain ⟨r,h1,h2,h3,h4⟩:=bs_l0 l id hl hs l.length 0 l.length FM (by omega) (by omega) (by omega) (by show _<4000000;omega) (fun k _ hk=>by omega) (fun k h hk=>by omega)
  have hp:=List.pairwise_iff_getElem.1 hs
  unfold ZaR ZaS
  rw [List.length_map,show Zaj FM l id FM 0 (l.length:Int)=_ from h1,Option.bind_some]
  by_cases hr:r<l.length
  · have h5:=h4 r hr (Nat.le_refl _)
    by_cases he:(l[r]).Id=id
    · refine .inl ⟨r,hr,he,?_⟩
      simp only [mg0,cond_true,mc]
      rw [decide_eq_true (by omega),cond_true,List.getElem?_eq_getElem hr,Option.bind_some,Zjn,if_neg (by omega),if_neg (by omega)]
      rfl
    · refine .inr ⟨r,h2,?_,h3,fun k h hk=>?_⟩
      · simp only [mg0,cond_true,mc]
        rw [decide_eq_true (by omega),cond_true,List.getElem?_eq_getElem hr,Option.bind_some,Zjn,if_neg (by omega),if_pos (by omega)]
        rfl
      · rcases Nat.lt_or_ge r k with q | q
        · have:=hp r k hr h q;omega
        · have:k=r:=by omega
          subst this;omega
  · refine .inr ⟨r,h2,?_,h3,fun k h hk=>by omega⟩
    rw [decide_eq_false (by omega),cond_false]
    rfl
theorem Ze5 (l : List Zaa) (id : Int) (hl : l.length ≤ 1000) (hs : SrtId l) :
    (∃ (i:Nat) (h:i<l.length),(l[i]).Id=id∧(l[i]).State≠4∧Zao FM id l=some (.inr i)) ∨
    ((∀ s,s∈l→s.Id=id→s.State=4)∧Zao FM id l=some (.inl ())):=by
  have hp:=List.pairwise_iff_getElem.1 hs
  rcases Zf3 l id hl hs with ⟨i,h,h1,h2⟩ | ⟨i,h,h2,h3,h4⟩
  · by_cases h4:(l[i]).State=4
    · refine .inr ⟨fun s hs he=>?_,?_⟩
      · obtain ⟨k,hk,rfl⟩:=List.getElem_of_mem hs
        have:k=i:=by
          rcases Nat.lt_trichotomy k i with q | q | q
          · have:=hp k i hk h q;omega
          · exact q
          · have:=hp i k h hk q;omega
        subst this;exact h4
      · unfold Zao
        rw [h2]
        simp only [Option.bind_some,Bool.not_true,cond_false,mg0,cond_true,mc,List.getElem?_eq_getElem h,h4,beq_self_eq_true]
    · refine .inl ⟨i,h,h1,h4,?_⟩
      unfold Zao
      rw [h2]
      have hb:((l[i]).State==4)=false:=by simpa using h4
      simp only [Option.bind_some,Bool.not_true,cond_false,mg0,cond_true,mc,List.getElem?_eq_getElem h,hb]
  · refine .inr ⟨fun s hs he=>?_,?_⟩
    · exfalso
      obtain ⟨k,hk,rfl⟩:=List.getElem_of_mem hs
      rcases Nat.lt_or_ge k i with q | q
      · have:=h3 k hk q;omega
      · have:=h4 k hk q;omega
    · unfold Zao
      rw [h2]
      rfl
theorem ZiE (l : List Zaa) (id ep : Int) (hl : l.length ≤ 1000) (hs : SrtId l) :
    (∃ (i:Nat) (h:i<l.length),(l[i]).Id=id∧(l[i]).State≠4∧(l[i]).Epoch=ep∧Zan FM id ep l=some (.inr (i,0))) ∨
    (∃ (i:Nat) (h:i<l.length),(l[i]).Id=id∧(l[i]).State≠4∧(l[i]).Epoch≠ep∧Zan FM id ep l=some (.inl 171)) ∨
    ((∀ s,s∈l→s.Id=id→s.State=4)∧Zan FM id ep l=some (.inl 172)):=by
  unfold Zan
  rcases Ze5 l id hl hs with ⟨i,h,h1,h2,h3⟩ | ⟨h1,h2⟩
  · rw [h3]
    simp only [Option.bind_some,Sum.elim_inr,List.getElem?_eq_getElem h]
    by_cases he:(l[i]).Epoch=ep
    · refine .inl ⟨i,h,h1,h2,he,?_⟩
      have hb:((l[i]).Epoch != ep)=false:=by simpa using he
      rw [hb,cond_false]
    · refine .inr (.inl ⟨i,h,h1,h2,he,?_⟩)
      have hb:((l[i]).Epoch != ep)=true:=by simpa using he
      rw [hb,cond_true]
  · rw [h2]
    exact .inr (.inr ⟨h1,rfl⟩)
end Go.T
set_option linter.unusedVariables false
set_option linter.unusedSimpArgs false
namespace Go.T
open Go Go.Ab
def noS:Zaa:=⟨0,0,0,[],[],[],[]⟩
def errR (e:Int):Zam:=⟨e,0,[]⟩
def SB (s:Zaa):Prop:=s.Jobs.length≤2000000∧s.Seen.length≤2000000∧∀ r,r∈s.Seen→r.Result.Jobs.length≤2000000
theorem Zi5 (e:Int):Zah FM e=some (errR e,noS):=rfl
theorem Zi2 {α:Type} (l:List α) (i:Nat) (h:i<l.length):l.set i l[i]=l:=by simp
theorem Zem (s:List Zaf) (h:s.length≤2000000):Zai FM s=some s:=by
  unfold Zai
  rw [decide_eq_true (by simp only [LIM];omega),cond_true]
theorem Zhe (s:List Zac) (h:s.length≤2000000):ZaG FM s=some s:=by
  unfold ZaG
  rw [decide_eq_true (by simp only [LIM];omega),cond_true]
theorem Zn5 (l:List Zac) (hl:l.length≤2000000) (hr:∀ r,r∈l→r.Result.Jobs.length≤2000000):∀ (d i m:Nat),i+d=l.length→d<m→ZbY FM l m (i:Int) l=some l:=by
  intro d
  induction d with
  | zero =>
    intro i m h hm
    obtain ⟨m,rfl⟩:∃ k,m=k+1:=⟨m - 1,by omega⟩
    unfold ZbY
    rw [decide_eq_false (by omega),cond_false]
  | succ d ih =>
    intro i m h hm
    obtain ⟨m,rfl⟩:∃ k,m=k+1:=⟨m - 1,by omega⟩
    have hi:i<l.length:=by omega
    unfold ZbY
    rw [decide_eq_true (by omega),cond_true]
    simp only [mg0,cond_true,mc,List.getElem?_eq_getElem hi,Option.bind_some,Zem _ (hr _ (List.getElem_mem hi))]
    rw [mwa i (by omega)]
    have:l.set i (Zac.mk (l[i]).Client (l[i]).Seq (Zam.mk (l[i]).Result.Err (l[i]).Result.Time (l[i]).Result.Jobs))=l:=Zi2 l i hi
    rw [this]
    exact ih (i+1) m (by omega) (by omega)
theorem Zg1 (s:Zaa) (h:SB s):ZbS FM s=some (s.Id,s.Epoch,s.State,s.From,s.To,s.Jobs,s.Seen):=by
  unfold ZbS
  rw [Zem _ h.1,Option.bind_some,Zhe _ h.2.1,Option.bind_some]
  rw [show ZbY FM s.Seen FM 0 s.Seen=_ from Zn5 s.Seen h.2.1 h.2.2 s.Seen.length 0 FM (by omega) (by show _<4000000;have:=h.2.1;omega)]
  rfl
def ZbK (s:Zaa) (k:Int):Zaa:=⟨s.Id,s.Epoch,k,s.From,s.To,s.Jobs,s.Seen⟩
def gone (s:Zaa):Zaa:=⟨s.Id,s.Epoch,4,s.From,s.To,[],[]⟩
theorem ZgE (o : Zae) (l : List Zaa) (hl : l.length ≤ 1000) (hs : SrtId l) (hb : ∀ s, s ∈ l → SB s) :
    (∃ (i:Nat) (h:i<l.length),(l[i]).Id=o.Shard∧(l[i]).State≠4∧(l[i]).Epoch=o.Epoch ∧
      ZaY FM o l=some (if (l[i]).State=3 then (errR 4,noS,l) else (errR 0,ZbK (l[i]) 2,l.set i (ZbK (l[i]) 2)))) ∨
    (∃ (i:Nat) (h:i<l.length),(l[i]).Id=o.Shard∧(l[i]).State≠4∧(l[i]).Epoch≠o.Epoch∧ZaY FM o l=some (errR 171,noS,l)) ∨
    ((∀ s,s∈l→s.Id=o.Shard→s.State=4)∧ZaY FM o l=some (errR 172,noS,l)):=by
  unfold ZaY
  rcases ZiE l o.Shard o.Epoch hl hs with ⟨i,h,h1,h2,h3,h4⟩ | ⟨i,h,h1,h2,h3,h4⟩ | ⟨h1,h4⟩
  · refine .inl ⟨i,h,h1,h2,h3,?_⟩
    rw [h4]
    simp only [Option.bind_some,Sum.elim_inr,show ((0:Int) != 0)=false from rfl,cond_false,List.getElem?_eq_getElem h]
    by_cases hq:(l[i]).State=3
    · rw [show ((l[i]).State==3)=true by simpa using hq,cond_true,Zi5,if_pos hq];rfl
    · rw [show ((l[i]).State==3)=false by simpa using hq,cond_false,if_neg hq]
      have hi:i<(l.set i (ZbK (l[i]) 2)).length:=by simpa using h
      rw [show (Zaa.mk (l[i]).Id (l[i]).Epoch 2 (l[i]).From (l[i]).To (l[i]).Jobs (l[i]).Seen)=ZbK (l[i]) 2 from rfl,List.getElem?_set_self h,Option.bind_some,
        Zg1 (ZbK (l[i]) 2) (show SB (ZbK (l[i]) 2) from hb (l[i]) (List.getElem_mem h)),Option.bind_some]
      rfl
  · refine .inr (.inl ⟨i,h,h1,h2,h3,?_⟩)
    rw [h4];rfl
  · refine .inr (.inr ⟨h1,?_⟩)
    rw [h4];rfl
theorem ZjZ (o : Zae) (l : List Zaa) (hl : l.length ≤ 1000) (hs : SrtId l) :
    (∃ (i:Nat) (h:i<l.length),(l[i]).Id=o.Shard∧(l[i]).State≠4∧(l[i]).Epoch=o.Epoch ∧
      Zbc FM o l=some (if (l[i]).State=2 then (errR 4,noS,l) else (errR 0,noS,l.set i (ZbK (l[i]) 1)))) ∨
    (∃ (i:Nat) (h:i<l.length),(l[i]).Id=o.Shard∧(l[i]).State≠4∧(l[i]).Epoch≠o.Epoch∧Zbc FM o l=some (errR 171,noS,l)) ∨
    ((∀ s,s∈l→s.Id=o.Shard→s.State=4)∧Zbc FM o l=some (errR 172,noS,l)):=by
  unfold Zbc
  rcases ZiE l o.Shard o.Epoch hl hs with ⟨i,h,h1,h2,h3,h4⟩ | ⟨i,h,h1,h2,h3,h4⟩ | ⟨h1,h4⟩
  · refine .inl ⟨i,h,h1,h2,h3,?_⟩
    rw [h4]
    simp only [Option.bind_some,Sum.elim_inr,show ((0:Int) != 0)=false from rfl,cond_false,List.getElem?_eq_getElem h]
    by_cases hq:(l[i]).State=2
    · rw [show ((l[i]).State==2)=true by simpa using hq,cond_true,Zi5,if_pos hq];rfl
    · rw [show ((l[i]).State==2)=false by simpa using hq,cond_false,if_neg hq,Zi5];rfl
  · refine .inr (.inl ⟨i,h,h1,h2,h3,?_⟩)
    rw [h4];rfl
  · refine .inr (.inr ⟨h1,?_⟩)
    rw [h4];rfl
theorem Zg7 {α:Type} (l:List α) (i:Nat) (a b:α):(l.set i a).set i b=l.set i b:=by simp
theorem Zkq (l:List Zaa) (i:Nat) (h:i<l.length) (hst:(l[i]).State≠4) (hl:l.length≤1000) (hs:SrtId l):ZbL FM (l[i]).Id l=some (l.set i (gone (l[i]))):=by
  unfold ZbL
  have hp:=List.pairwise_iff_getElem.1 hs
  rcases Ze5 l (l[i]).Id hl hs with ⟨k,hk,h1,h2,h3⟩ | ⟨h1,_⟩
  · have:k=i:=by
      rcases Nat.lt_trichotomy k i with q | q | q
      · have:=hp k i hk h q;omega
      · exact q
      · have:=hp i k h hk q;omega
    subst this
    rw [h3]
    simp only [Option.bind_some,Sum.elim_inr,List.getElem?_eq_getElem hk,List.getElem?_set_self hk,Zg7,List.getElem?_set_self (show k<(l.set k _).length by simpa using hk)]
    rfl
  · exact absurd (h1 _ (List.getElem_mem h) rfl) hst
end Go.T
set_option linter.unusedVariables false
set_option linter.unusedSimpArgs false
namespace Go.T
open Go Go.Ab
theorem Zif (l:List Zaa) (x:Zaa) (i:Nat) (h:i≤l.length) (hl:l.length≤1000):Zaq FM (i:Int) l [x]=some (l.take i++x::l.drop i):=by
  unfold Zaq
  simp only [mc]
  rw [decide_eq_true (by exact ⟨by omega,h,by simp only [LIM];omega⟩),cond_true]
theorem Zfx (o : Zae) (l : List Zaa) (hl : l.length ≤ 1000) (hs : SrtId l) (ho : 1 ≤ o.Shard) (he : 1 ≤ o.Epoch) (he2 : o.Epoch ≤ 1099511627776) :
    (∃ (i:Nat) (h:i<l.length),(l[i]).Id=o.Shard∧ZaM FM o l=some (
      if (l[i]).State=4 then (errR 0,noS,l.set i ⟨(l[i]).Id,if o.Epoch > (l[i]).Epoch then o.Epoch else (l[i]).Epoch,(l[i]).State,(l[i]).From,(l[i]).To,(l[i]).Jobs,(l[i]).Seen⟩)
      else if (l[i]).Epoch≠o.Epoch then (errR 171,noS,l)
      else if (l[i]).State=1 then (errR 4,noS,l)
      else (errR 0,noS,l.set i (gone (l[i]))))) ∨
    (∃ i:Nat,i≤l.length∧(∀ k (h:k<l.length),k<i→(l[k]).Id<o.Shard)∧(∀ k (h:k<l.length),i≤k→o.Shard<(l[k]).Id) ∧
      ZaM FM o l=some (if 64≤l.length then (errR 3,noS,l) else (errR 0,noS,l.take i++(⟨o.Shard,o.Epoch,4,[],[],[],[]⟩:Zaa)::l.drop i))):=by
  unfold ZaM
  rw [decide_eq_false (by omega),cond_false,decide_eq_false (by omega),cond_false,decide_eq_false (by omega),Option.bind_some,cond_false]
  rcases Zf3 l o.Shard hl hs with ⟨i,h,h1,h2⟩ | ⟨i,h,h2,h3,h4⟩
  · refine .inl ⟨i,h,h1,?_⟩
    rw [h2]
    simp only [Option.bind_some,Bool.not_true,cond_false,mg0,cond_true,mc,List.getElem?_eq_getElem h]
    by_cases c1:(l[i]).State=4
    · rw [show ((l[i]).State==4)=true by simpa using c1,cond_true,if_pos c1]
      rfl
    · rw [show ((l[i]).State==4)=false by simpa using c1,cond_false,if_neg c1]
      by_cases c2:(l[i]).Epoch=o.Epoch
      · rw [show ((l[i]).Epoch != o.Epoch)=false by simpa using c2,cond_false,if_neg (by simpa using c2)]
        by_cases c3:(l[i]).State=1
        · rw [show ((l[i]).State==1)=true by simpa using c3,cond_true,if_pos c3]
          rfl
        · rw [show ((l[i]).State==1)=false by simpa using c3,cond_false,if_neg c3,← h1,Zkq l i h c1 hl hs]
          rfl
      · rw [show ((l[i]).Epoch != o.Epoch)=true by simpa using c2,cond_true,if_pos c2]
        rfl
  · refine .inr ⟨i,h,h3,h4,?_⟩
    rw [h2]
    simp only [Option.bind_some,Bool.not_false,cond_true,List.length_map]
    by_cases c:64≤l.length
    · rw [decide_eq_true (by omega),cond_true,if_pos c]
      rfl
    · rw [decide_eq_false (by omega),cond_false,if_neg c,Zif l _ i h hl]
      rfl
theorem ZkY (now next:Int):Zcg FM now next=some (decide (now<next∧next≤1099511627776)):=by
  unfold Zcg
  by_cases h:now<next
  · rw [decide_eq_true h,cond_true]
    simp [h]
  · rw [decide_eq_false h,cond_false]
    simp [h]
def ZqP (s:Zaa) (e:Int):Zaa:=⟨s.Id,e,1,s.From,s.To,s.Jobs,s.Seen⟩
theorem ZjF (o : Zae) (l : List Zaa) (hl : l.length ≤ 1000) (hs : SrtId l) :
    (∃ (i:Nat) (h:i<l.length),(l[i]).Id=o.Shard∧(l[i]).State≠4∧Zbn FM o l=some (
      if (l[i]).State=1∧(l[i]).Epoch=o.Past then (errR 0,noS,l)
      else if (l[i]).Epoch≠o.Epoch then (errR 171,noS,l)
      else if (l[i]).State≠2 then (errR 4,noS,l)
      else if ¬ ((l[i]).Epoch<o.Past∧o.Past≤1099511627776) then (errR 1,noS,l)
      else (errR 0,noS,l.set i (ZqP (l[i]) o.Past)))) ∨
    ((∀ s,s∈l→s.Id=o.Shard→s.State=4)∧Zbn FM o l=some (errR 172,noS,l)):=by
  have hp:=List.pairwise_iff_getElem.1 hs
  unfold Zbn
  rcases Ze5 l o.Shard hl hs with ⟨i,h,h1,h2,h3⟩ | ⟨h1,h3⟩
  · refine .inl ⟨i,h,h1,h2,?_⟩
    rw [h3]
    simp only [Option.bind_some,Sum.elim_inr,List.getElem?_eq_getElem h]
    have ht:∀ X:Int ⊕ (Nat×Int),True:=fun _=>trivial
    have hth:Zan FM o.Shard o.Epoch l=some (if (l[i]).Epoch≠o.Epoch then .inl 171 else .inr (i,0)):=by
      unfold Zan
      rw [h3]
      simp only [Option.bind_some,Sum.elim_inr,List.getElem?_eq_getElem h]
      by_cases c:(l[i]).Epoch=o.Epoch
      · rw [show ((l[i]).Epoch != o.Epoch)=false by simpa using c,cond_false,if_neg (by simpa using c)]
      · rw [show ((l[i]).Epoch != o.Epoch)=true by simpa using c,cond_true,if_pos c]
    have hfirst:(bif ((l[i]).State==1) then some ((l[i]).Epoch==o.Past) else some false)=some (decide ((l[i]).State=1∧(l[i]).Epoch=o.Past)):=by
      by_cases c:(l[i]).State=1
      · simp [c];by_cases d:(l[i]).Epoch=o.Past<;>simp [d]
      · rw [show ((l[i]).State==1)=false by simpa using c,cond_false];simp [c]
    rw [hfirst,Option.bind_some]
    by_cases c0:(l[i]).State=1∧(l[i]).Epoch=o.Past
    · rw [decide_eq_true c0,cond_true,if_pos c0]
      rfl
    · rw [decide_eq_false c0,cond_false,if_neg c0,hth,Option.bind_some]
      by_cases c1:(l[i]).Epoch=o.Epoch
      · rw [if_neg (by simpa using c1),if_neg (by simpa using c1)]
        simp only [Sum.elim_inr,show ((0:Int) != 0)=false from rfl,cond_false,List.getElem?_eq_getElem h,Option.bind_some]
        by_cases c2:(l[i]).State=2
        · rw [show ((l[i]).State != 2)=false by simpa using c2,cond_false,if_neg (by simpa using c2)]
          rw [ZkY,Option.bind_some]
          by_cases c3:(l[i]).Epoch<o.Past∧o.Past≤1099511627776
          · rw [decide_eq_true c3,Bool.not_true,cond_false,if_neg (by simpa using c3)]
            simp only [List.getElem?_set_self h,Option.bind_some,Zi5,Zg7]
            rfl
          · rw [decide_eq_false c3,Bool.not_false,cond_true,if_pos c3]
            rfl
        · rw [show ((l[i]).State != 2)=true by simpa using c2,cond_true,if_pos c2]
          rfl
      · rw [if_pos c1,if_pos c1]
        rfl
  · refine .inr ⟨h1,?_⟩
    rw [h3]
    have hth:Zan FM o.Shard o.Epoch l=some (.inl 172):=by
      unfold Zan
      rw [h3];rfl
    simp only [Option.bind_some,Sum.elim_inl,hth]
    rfl
end Go.T
set_option linter.unusedVariables false
set_option linter.unusedSimpArgs false
namespace Go.T
open Go Go.Ab
def liveN (l:List Zaa):Nat:=l.countP fun s=>decide (s.State≠4)
theorem Zp6 (l:List Zaa) (hl:l.length≤1000):∀ (d i m n:Nat),i+d=l.length→d<m→n≤i→Zcz FM l m (n:Int) (i:Int)=some ((n+liveN (l.drop i):Nat):Int):=by
  intro d
  induction d with
  | zero =>
    intro i m n h hm hn
    obtain ⟨m,rfl⟩:∃ k,m=k+1:=⟨m - 1,by omega⟩
    unfold Zcz
    rw [decide_eq_false (by omega),cond_false,List.drop_of_length_le (by omega)]
    rfl
  | succ d ih =>
    intro i m n h hm hn
    obtain ⟨m,rfl⟩:∃ k,m=k+1:=⟨m - 1,by omega⟩
    have hi:i<l.length:=by omega
    unfold Zcz
    rw [decide_eq_true (by omega),cond_true]
    simp only [mg0,cond_true,mc,List.getElem?_eq_getElem hi,Option.bind_some]
    rw [mwa i (by omega),mwa n (by omega),List.drop_eq_getElem_cons hi]
    by_cases c:(l[i]).State=4
    · rw [show ((l[i]).State != 4)=false by simpa using c,cond_false,Option.bind_some,ih (i+1) m n (by omega) (by omega) (by omega)]
      unfold liveN
      rw [List.countP_cons_of_neg (by simpa using c)]
    · rw [show ((l[i]).State != 4)=true by simpa using c,cond_true,Option.bind_some,ih (i+1) m (n+1) (by omega) (by omega) (by omega)]
      unfold liveN
      rw [List.countP_cons_of_pos (by simpa using c)]
      congr 1;omega
theorem Zib (l:List Zaa) (hl:l.length≤1000):Zcr FM l=some (liveN l:Int):=by
  unfold Zcr
  have:=Zp6 l hl l.length 0 FM 0 (by omega) (by show _<4000000;omega) (by omega)
  rw [show Zcz FM l FM 0 0=_ from this,List.drop_zero,Nat.zero_add]
  rfl
theorem ZfZ (o : Zae) (l : List Zaa) (hl : l.length ≤ 1000) (hs : SrtId l) (hr : Zb2 FM o.State = some true) (hst : o.State.State ≠ 4) (hb : SB o.State) :
    (∃ (i:Nat) (h:i<l.length),(l[i]).Id=o.State.Id∧Za0 FM o l=some (
      if (l[i]).State=4∧o.State.Epoch≤(l[i]).Epoch then (errR 171,noS,l)
      else if (l[i]).State=4∧16≤liveN l then (errR 3,noS,l)
      else if (l[i]).Epoch=o.State.Epoch then (errR 0,noS,l)
      else if o.State.Epoch<(l[i]).Epoch then (errR 171,noS,l)
      else if (l[i]).State=1 then (errR 4,noS,l)
      else (errR 0,noS,l.set i (ZbK o.State 3)))) ∨
    (∃ i:Nat,i≤l.length∧(∀ k (h:k<l.length),k<i→(l[k]).Id<o.State.Id)∧(∀ k (h:k<l.length),i≤k→o.State.Id<(l[k]).Id) ∧
      Za0 FM o l=some (if 16≤liveN l∨64≤l.length then (errR 3,noS,l) else (errR 0,noS,l.take i++ZbK o.State 3::l.drop i))):=by
  unfold Za0
  rw [hr]
  simp only [Option.bind_some,Bool.not_true,cond_false]
  rw [show (o.State.State==4)=false by simpa using hst,cond_false,Zg1 _ hb,Option.bind_some]
  simp only
  rcases Zf3 l o.State.Id hl hs with ⟨i,h,h1,h2⟩ | ⟨i,h,h2,h3,h4⟩
  · refine .inl ⟨i,h,h1,?_⟩
    rw [h2]
    simp only [Option.bind_some,cond_true,mg0,mc,List.getElem?_eq_getElem h,Zib l hl]
    by_cases c1:(l[i]).State=4
    · rw [show ((l[i]).State==4)=true by simpa using c1]
      simp only [cond_true,Option.bind_some]
      by_cases c2:o.State.Epoch≤(l[i]).Epoch
      · rw [decide_eq_true c2,cond_true,if_pos ⟨c1,c2⟩];rfl
      · rw [decide_eq_false c2,cond_false,if_neg (by omega)]
        by_cases c3:16≤liveN l
        · rw [decide_eq_true (by omega),cond_true,if_pos ⟨c1,c3⟩];rfl
        · rw [decide_eq_false (by omega),cond_false,if_neg (by omega)]
          rw [show ((l[i]).Epoch==o.State.Epoch)=false by rw [beq_eq_false_iff_ne];omega,cond_false,if_neg (by omega),decide_eq_false (by omega),cond_false,if_neg (by omega),
            show ((l[i]).State==1)=false by rw [beq_eq_false_iff_ne];omega,cond_false,if_neg (by omega)]
          rfl
    · rw [show ((l[i]).State==4)=false by simpa using c1]
      simp only [cond_false,Option.bind_some]
      rw [if_neg (by omega),if_neg (by omega)]
      by_cases c2:(l[i]).Epoch=o.State.Epoch
      · rw [show ((l[i]).Epoch==o.State.Epoch)=true by simpa using c2,cond_true,if_pos c2];rfl
      · rw [show ((l[i]).Epoch==o.State.Epoch)=false by simpa using c2,cond_false,if_neg c2]
        by_cases c3:o.State.Epoch<(l[i]).Epoch
        · rw [decide_eq_true c3,cond_true,if_pos c3];rfl
        · rw [decide_eq_false c3,cond_false,if_neg c3]
          by_cases c4:(l[i]).State=1
          · rw [show ((l[i]).State==1)=true by simpa using c4,cond_true,if_pos c4];rfl
          · rw [show ((l[i]).State==1)=false by simpa using c4,cond_false,if_neg c4]
            rfl
  · refine .inr ⟨i,h,h3,h4,?_⟩
    rw [h2]
    simp only [Option.bind_some,cond_false,Zib l hl,List.length_map]
    by_cases c1:16≤liveN l
    · rw [decide_eq_true (by omega),cond_true]
      simp only [Option.bind_some,cond_true]
      rw [if_pos (.inl c1)];rfl
    · rw [decide_eq_false (by omega),cond_false]
      simp only [Option.bind_some]
      by_cases c2:64≤l.length
      · rw [decide_eq_true (by omega),cond_true,if_pos (.inr c2)];rfl
      · rw [decide_eq_false (by omega),cond_false,if_neg (by omega),show (Zaa.mk o.State.Id o.State.Epoch 3 o.State.From o.State.To o.State.Jobs o.State.Seen)=ZbK o.State 3 from rfl,Zif l _ i h hl]
        rfl
end Go.T
set_option linter.unusedVariables false
set_option linter.unusedSimpArgs false
namespace Go.T
open Go Go.Ab
def ZjJ (o:Zae) (l:List Zaa) (i:Nat):Option (Zam×Zaa×(List Zaa)) :=
  (Option.bind ((l)[i]?) fun y_23=>(
    (bif (y_23.State != (1:Int)) then (
      (Option.bind (Zah FM (4:Int)) fun y_24=>(
        some (y_24.1,y_24.2,l)
      ))
    ) else (
      (Option.bind (
        (Option.bind ((l)[i]?) fun y_28=>(
          (Option.bind (Zcg FM y_28.Epoch o.Past) fun y_29=>(
            (bif (!y_29) then (
              some true
            ) else (
              some (decide (o.Other<(1:Int)))
            ))
          ))
        ))
      ) fun t82_27=>(
        (bif t82_27 then (
          (Option.bind (Zah FM (1:Int)) fun y_30=>(
            some (y_30.1,y_30.2,l)
          ))
        ) else (
          (Option.bind (Zbi FM o.Other l) fun y_31=>(
            (bif y_31 then (
              (Option.bind (Zah FM (150:Int)) fun y_32=>(
                some (y_32.1,y_32.2,l)
              ))
            ) else (
              (Option.bind (
                (Option.bind ((l)[i]?) fun y_37=>(
                  (Option.bind (Zdu FM y_37 o.Key) fun y_38=>(
                    (bif (!y_38) then (
                      some true
                    ) else (
                      (Option.bind ((l)[i]?) fun y_39=>(
                        some (o.Key==y_39.From)
                      ))
                    ))
                  ))
                ))
              ) fun t107_36=>(
                (bif t107_36 then (
                  (Option.bind (Zah FM (170:Int)) fun y_40=>(
                    some (y_40.1,y_40.2,l)
                  ))
                ) else (
                  (Option.bind (
                    (Option.bind (Zcr FM l) fun y_43=>(
                      (bif (decide ((16:Int)≤y_43)) then (
                        some true
                      ) else (
                        some (decide ((64:Int)≤(@Nat.cast Int instNatCastInt (List.length (List.map Zaa.c l)))))
                      ))
                    ))
                  ) fun t127_42=>(
                    (bif t127_42 then (
                      (Option.bind (Zah FM (3:Int)) fun y_44=>(
                        some (y_44.1,y_44.2,l)
                      ))
                    ) else (
                      (Option.bind ((l)[i]?) fun y_45=>(
                        (Option.bind (Zas FM y_45.Jobs o) fun y_46=>(
                          (Option.bind (
                            (bif (decide (y_46<(0:Int))) then (
                              (Option.bind ((l)[i]?) fun y_49=>(
                                some (@Nat.cast Int instNatCastInt (List.length (List.map Zaf.c y_49.Jobs)))
                              ))
                            ) else (
                              some y_46
                            ))
                          ) fun n_48=>(
                            (Option.bind ((l)[i]?) fun y_50=>(
                              (Option.bind (ZbS FM y_50) fun y_51=>(
                                (bif decide ((0:Int)≤n_48) then (
                                  (bif decide ((Int.toNat n_48)≤(List.length y_51.2.2.2.2.2.1)) then (
                                    (bif decide ((List.length y_51.2.2.2.2.2.1)≤(List.length y_51.2.2.2.2.2.1)) then (
                                      (Option.bind ((l)[i]?) fun y_52=>(
                                        (bif decide ((0:Int)≤n_48) then (
                                          (bif decide (0≤(Int.toNat n_48)) then (
                                            (bif decide ((Int.toNat n_48)≤(List.length y_52.Jobs)) then (
                                              (Option.bind (Zai FM (List.take (Int.toNat n_48) y_52.Jobs)) fun y_53=>(
                                                (Option.bind ((l)[i]?) fun y_54=>(
                                                  (Option.bind (((List.set l i (Zaa.mk y_54.Id o.Past y_54.State y_54.From y_54.To y_54.Jobs y_54.Seen)))[i]?) fun y_55=>(
                                                    (Option.bind (((List.set (List.set l i (Zaa.mk y_54.Id o.Past y_54.State y_54.From y_54.To y_54.Jobs y_54.Seen)) i (Zaa.mk y_55.Id y_55.Epoch y_55.State y_55.From o.Key y_55.Jobs y_55.Seen)))[i]?) fun y_56=>(
                                                      (Option.bind (ZaR FM o.Other (List.set (List.set (List.set l i (Zaa.mk y_54.Id o.Past y_54.State y_54.From y_54.To y_54.Jobs y_54.Seen)) i (Zaa.mk y_55.Id y_55.Epoch y_55.State y_55.From o.Key y_55.Jobs y_55.Seen)) i (Zaa.mk y_56.Id y_56.Epoch y_56.State y_56.From y_56.To y_53 y_56.Seen))) fun y_57=>(
                                                        (Option.bind (Zaq FM y_57.1 (List.set (List.set (List.set l i (Zaa.mk y_54.Id o.Past y_54.State y_54.From y_54.To y_54.Jobs y_54.Seen)) i (Zaa.mk y_55.Id y_55.Epoch y_55.State y_55.From o.Key y_55.Jobs y_55.Seen)) i (Zaa.mk y_56.Id y_56.Epoch y_56.State y_56.From y_56.To y_53 y_56.Seen)) ((Zaa.mk o.Other o.Past y_51.2.2.1 o.Key y_51.2.2.2.2.1 (List.drop (Int.toNat n_48) y_51.2.2.2.2.2.1) y_51.2.2.2.2.2.2)::[])) fun y_58=>(
                                                          (Option.bind (Zah FM (0:Int)) fun y_59=>(
                                                            some (y_59.1,y_59.2,y_58)
                                                          ))
                                                        ))
                                                      ))
                                                    ))
                                                  ))
                                                ))
                                              ))
                                            ) else none)
                                          ) else none)
                                        ) else none)
                                      ))
                                    ) else none)
                                  ) else none)
                                ) else none)
                              ))
                            ))
                          ))
                        ))
                      ))
                    ))
                  ))
                ))
              ))
            ))
          ))
        ))
      ))
    ))
  ))
theorem ZhT {l:List Zaa} (hs:SrtId l) {i k:Nat} (hi:i<l.length) (hk:k<l.length) (h:(l[i]).Id=(l[k]).Id):i=k:=by
  have hp:=List.pairwise_iff_getElem.1 hs
  rcases Nat.lt_trichotomy i k with q | q | q
  · have:=hp i k hi hk q;omega
  · exact q
  · have:=hp k i hk hi q;omega
theorem ZiY (l:List Zaa) (i:Nat) (h:i<l.length) (id ep:Int) (hg:Zao FM id l=some (.inr i)):Zan FM id ep l=some (if (l[i]).Epoch≠ep then .inl 171 else .inr (i,0)):=by
  unfold Zan
  rw [hg]
  simp only [Option.bind_some,Sum.elim_inr,List.getElem?_eq_getElem h]
  by_cases c:(l[i]).Epoch=ep
  · rw [show ((l[i]).Epoch != ep)=false by simpa using c,cond_false,if_neg (by simpa using c)]
  · rw [show ((l[i]).Epoch != ep)=true by simpa using c,cond_true,if_pos c]
theorem ZlA (l:List Zaa) (id ep:Int) (hg:Zao FM id l=some (.inl ())):Zan FM id ep l=some (.inl 172):=by
  unfold Zan
  rw [hg];rfl
theorem Zmk (o:Zae) (l:List Zaa) (hl:l.length≤1000) (hs:SrtId l) (hg:Zao FM o.Shard l=some (.inl ())):ZaX FM o l=some (errR 172,noS,l):=by
  unfold ZaX
  rw [hg]
  simp only [Option.bind_some,Sum.elim_inl]
  have ht:=ZlA l o.Shard o.Epoch hg
  rcases Ze5 l o.Other hl hs with ⟨k,hk,h1,h2,h3⟩ | ⟨h1,h3⟩
  · rw [h3]
    simp only [Option.bind_some,Sum.elim_inr,ht,Sum.elim_inl]
    rfl
  · rw [h3]
    simp only [Option.bind_some,ht,Sum.elim_inl]
    rfl
theorem ZiZ (o : Zae) (l : List Zaa) (hl : l.length ≤ 1000) (hs : SrtId l) (i : Nat) (h : i < l.length) (hg : Zao FM o.Shard l = some (.inr i)) :
    (∃ (k:Nat) (hk:k<l.length),(l[k]).Id=o.Other∧(l[k]).State≠4∧(l[i]).Epoch=o.Past∧(l[k]).Epoch=o.Past∧(l[k]).From=o.Key∧ZaX FM o l=some (errR 0,noS,l)) ∨
    (¬ (∃ (k:Nat) (hk:k<l.length),(l[k]).Id=o.Other∧(l[k]).State≠4∧(l[i]).Epoch=o.Past∧(l[k]).Epoch=o.Past∧(l[k]).From=o.Key) ∧
      ZaX FM o l=if (l[i]).Epoch≠o.Epoch then some (errR 171,noS,l) else ZjJ o l i):=by
  have ht:=ZiY l i h o.Shard o.Epoch hg
  have rest : ∀ X : Option (Zam × Zaa × (List Zaa)),
      (Option.bind (Zan FM o.Shard o.Epoch l) fun y_2=>Sum.elim (fun y_2=>(bif (y_2 != (0:Int)) then (Option.bind (Zah FM y_2) fun y_4=>some (y_4.1,y_4.2,l)) else none))
        (fun y_2=>(bif (y_2.2 != (0:Int)) then (Option.bind (Zah FM y_2.2) fun y_22=>some (y_22.1,y_22.2,l)) else ZjJ o l y_2.1)) y_2)=if (l[i]).Epoch≠o.Epoch then some (errR 171,noS,l) else ZjJ o l i:=by
    intro _
    rw [ht]
    by_cases c:(l[i]).Epoch=o.Epoch
    · rw [if_neg (by simpa using c),if_neg (by simpa using c)];rfl
    · rw [if_pos c,if_pos c];rfl
  unfold ZaX
  rw [hg]
  simp only [Option.bind_some,Sum.elim_inr]
  rcases Ze5 l o.Other hl hs with ⟨k,hk,h1,h2,h3⟩ | ⟨h1,h3⟩
  · rw [h3]
    simp only [Option.bind_some,Sum.elim_inr,List.getElem?_eq_getElem h,List.getElem?_eq_getElem hk]
    by_cases c:(l[i]).Epoch=o.Past∧(l[k]).Epoch=o.Past∧(l[k]).From=o.Key
    · refine .inl ⟨k,hk,h1,h2,c.1,c.2.1,c.2.2,?_⟩
      obtain ⟨c1,c2,c3⟩:=c
      rw [show ((l[i]).Epoch==o.Past)=true by simpa using c1,show ((l[k]).Epoch==o.Past)=true by simpa using c2,show ((l[k]).From==o.Key)=true by simpa using c3]
      rfl
    · refine .inr ⟨?_,?_⟩
      · rintro ⟨k',hk',e1,e2,e3,e4,e5⟩
        have:=ZhT hs hk' hk (e1.trans h1.symm)
        subst this
        exact c ⟨e3,e4,e5⟩
      · have hcond:(bif ((l[i]).Epoch==o.Past) then (bif ((l[k]).Epoch==o.Past) then some ((l[k]).From==o.Key) else some false) else some false)=some false:=by
          by_cases c1:(l[i]).Epoch=o.Past
          · rw [show ((l[i]).Epoch==o.Past)=true by simpa using c1,cond_true]
            by_cases c2:(l[k]).Epoch=o.Past
            · rw [show ((l[k]).Epoch==o.Past)=true by simpa using c2,cond_true]
              have:(l[k]).From≠o.Key:=fun c3=>c ⟨c1,c2,c3⟩
              rw [show ((l[k]).From==o.Key)=false by simpa using this]
            · rw [show ((l[k]).Epoch==o.Past)=false by simpa using c2,cond_false]
          · rw [show ((l[i]).Epoch==o.Past)=false by simpa using c1,cond_false]
        first
          | (rw [hcond,Option.bind_some,cond_false];exact rest none)
          | skip
  · rw [h3]
    refine .inr ⟨?_,?_⟩
    · rintro ⟨k',hk',e1,e2,e3,e4,e5⟩
      exact e2 (h1 _ (List.getElem_mem hk') e1)
    · simp only [Option.bind_some,Sum.elim_inl]
      exact rest none
end Go.T
set_option linter.unusedVariables false
set_option linter.unusedSimpArgs false
namespace Go.T
open Go Go.Ab
def cutN (l:List Zaf) (key:List UInt8):Nat:=(l.takeWhile fun j=>Op.bytesLess j.Name key).length
theorem Zqp (l:List Zaf) (key:List UInt8):cutN l key≤l.length:=(List.takeWhile_prefix _).length_le
theorem ZqX (o : Zae) : ∀ (l pre : List Zaf) (m : Nat), (pre ++ l).length ≤ 2000000 → l.length < m →
    Zau FM (pre++l) o m (pre.length:Int)=some (if cutN l o.Key<l.length then .inl ((pre.length+cutN l o.Key:Nat):Int) else .inr ()):=by
  intro l
  induction l with
  | nil =>
    intro pre m h hm
    obtain ⟨m,rfl⟩:∃ k,m=k+1:=⟨m - 1,by simp at hm;omega⟩
    unfold Zau
    rw [decide_eq_false (by simp),cond_false,if_neg (by simp [cutN])]
  | cons x l ih =>
    intro pre m h hm
    obtain ⟨m,rfl⟩:∃ k,m=k+1:=⟨m - 1,by simp at hm;omega⟩
    have hlt:pre.length<(pre++x::l).length:=by simp
    have hg:(pre++x::l)[pre.length]? = some x:=by simp
    unfold Zau Zcq
    rw [decide_eq_true (by exact_mod_cast hlt),cond_true]
    simp only [mg0,cond_true,mc,hg,Option.bind_some]
    cases hc:Op.bytesLess x.Name o.Key with
    | true =>
      simp only [Bool.not_true,cond_false]
      rw [mwa _ (by simp at h;omega)]
      have:=ih (pre++[x]) m (by simpa using h) (by simp at hm;omega)
      simp only [List.append_assoc,List.singleton_append,List.length_append,List.length_singleton] at this
      rw [this]
      have e:cutN (x::l) o.Key=cutN l o.Key+1:=by
        unfold cutN
        rw [List.takeWhile_cons,hc];rfl
      rw [e]
      simp only [List.length_cons]
      by_cases c:cutN l o.Key<l.length
      · rw [if_pos c,if_pos (by omega),show pre.length+1+cutN l o.Key=pre.length+(cutN l o.Key+1) by omega]
      · rw [if_neg c,if_neg (by omega)]
    | false =>
      simp only [Bool.not_false,cond_true]
      have e:cutN (x::l) o.Key=0:=by
        unfold cutN
        rw [List.takeWhile_cons,hc];rfl
      rw [e,if_pos (by simp),Nat.add_zero]
theorem ZqY (l:List Zaf) (o:Zae) (h:l.length≤2000000):Zas FM l o=some (if cutN l o.Key<l.length then (cutN l o.Key:Int) else -1):=by
  unfold Zas
  have:=ZqX o l [] FM (by simpa using h) (by show _<4000000;omega)
  simp only [List.nil_append,List.length_nil,Nat.zero_add] at this
  rw [show Zau FM l o FM 0=_ from this]
  by_cases c:cutN l o.Key<l.length
  · rw [if_pos c,if_pos c];rfl
  · rw [if_neg c,if_neg c];rfl
def Zed (s:Zaa) (o:Zae):Zaa:=⟨s.Id,o.Past,s.State,s.From,o.Key,s.Jobs.take (cutN s.Jobs o.Key),s.Seen⟩
def ZgK (s:Zaa) (o:Zae):Zaa:=⟨o.Other,o.Past,s.State,o.Key,s.To,s.Jobs.drop (cutN s.Jobs o.Key),s.Seen⟩
theorem ZkL {l:List Zaa} (hs:SrtId l) (i:Nat) (h:i<l.length) (x:Zaa) (hx:x.Id=(l[i]).Id):SrtId (l.set i x):=by
  unfold SrtId at hs ⊢
  rw [List.pairwise_iff_getElem] at hs ⊢
  intro a b ha hb hab
  simp only [List.length_set] at ha hb
  rw [List.getElem_set,List.getElem_set]
  by_cases c1:i=a
  · subst c1
    rw [if_pos rfl,if_neg (by omega),hx]
    exact hs i b h hb hab
  · rw [if_neg c1]
    by_cases c2:i=b
    · subst c2
      rw [if_pos rfl,hx]
      exact hs a i ha h hab
    · rw [if_neg c2]
      exact hs a b ha hb hab
theorem Zm3 (o : Zae) (l : List Zaa) (i : Nat) (h : i < l.length) (hl : l.length < 64) (hs : SrtId l) (hst : (l[i]).State = 1) (hp : (l[i]).Epoch < o.Past ∧ o.Past ≤ 1099511627776) (ho : 1 ≤ o.Other)
    (hk:∀ s,s∈l→s.Id≠o.Other) (hin:Zdu FM (l[i]) o.Key=some true) (hne:o.Key≠(l[i]).From) (hlv:liveN l<16) (hb:SB (l[i])) :
    ∃ k:Nat,k≤l.length∧(∀ j (hj:j<l.length),j<k→(l[j]).Id<o.Other)∧(∀ j (hj:j<l.length),k≤j→o.Other<(l[j]).Id) ∧
      ZjJ o l i=some (errR 0,noS,(l.set i (Zed (l[i]) o)).take k++ZgK (l[i]) o::(l.set i (Zed (l[i]) o)).drop k):=by
  have hs1:=ZkL hs i h (Zed (l[i]) o) rfl
  have hcl:=Zqp (l[i]).Jobs o.Key
  have hjl:=hb.1
  -- who is called so
  have hkn:Zbi FM o.Other l=some false:=by
    unfold Zbi
    rcases Zf3 l o.Other (by omega) hs with ⟨k,hk1,h1,_⟩ | ⟨k,_,h2,_,_⟩
    · exact absurd h1 (hk _ (List.getElem_mem hk1))
    · rw [h2];rfl
  have hidx:∀ a:Int,(bif decide ((if cutN (l[i]).Jobs o.Key<(l[i]).Jobs.length then (cutN (l[i]).Jobs o.Key:Int) else -1)<0) then some ((l[i]).Jobs.length:Int) else some (if cutN (l[i]).Jobs o.Key<(l[i]).Jobs.length then (cutN (l[i]).Jobs o.Key:Int) else -1))=some (cutN (l[i]).Jobs o.Key:Int):=by
    intro _
    by_cases c:cutN (l[i]).Jobs o.Key<(l[i]).Jobs.length
    · rw [if_pos c,decide_eq_false (by omega),cond_false]
    · rw [if_neg c,show decide ((-1:Int)<0)=true from rfl,cond_true]
      congr 1;omega
  unfold ZjJ
  simp only [List.getElem?_eq_getElem h,Option.bind_some]
  rw [show ((l[i]).State != 1)=false by simpa using hst,cond_false,ZkY,Option.bind_some,decide_eq_true hp,Bool.not_true,cond_false,decide_eq_false (by omega),Option.bind_some,cond_false,hkn,Option.bind_some,cond_false,hin]
  simp only [Option.bind_some,Bool.not_true,cond_false]
  rw [show (o.Key==(l[i]).From)=false by simpa using hne,cond_false,Zib l (by omega),Option.bind_some,decide_eq_false (by omega),cond_false,List.length_map,decide_eq_false (by omega),Option.bind_some,cond_false,
    ZqY _ _ hjl,Option.bind_some,List.length_map,hidx 0,Option.bind_some,Zg1 _ hb,Option.bind_some]
  simp only [mg0,cond_true,mc]
  rw [decide_eq_true hcl,cond_true,decide_eq_true (Nat.le_refl _),cond_true,decide_eq_true (Nat.zero_le _),cond_true]
  rw [Zem _ (by rw [List.length_take];omega),Option.bind_some]
  simp only [List.getElem?_set_self h,Option.bind_some,Zg7,List.getElem?_set_self (show i<(l.set i _).length by simpa using h)]
  have hlow:(Zaa.mk (l[i]).Id o.Past (l[i]).State (l[i]).From o.Key (List.take (cutN (l[i]).Jobs o.Key) (l[i]).Jobs) (l[i]).Seen)=Zed (l[i]) o:=rfl
  rw [hlow]
  rcases Zf3 (l.set i (Zed (l[i]) o)) o.Other (by simp;omega) hs1 with ⟨k,hk1,h1,_⟩ | ⟨k,hk1,h2,h3,h4⟩
  · exfalso
    simp only [List.length_set] at hk1
    rw [List.getElem_set] at h1
    split at h1
    · exact hk _ (List.getElem_mem h) h1
    · exact hk _ (List.getElem_mem hk1) h1
  · simp only [List.length_set] at hk1
    have hid:∀ j (hj:j<l.length),((l.set i (Zed (l[i]) o))[j]'(by simpa using hj)).Id=(l[j]).Id:=by
      intro j hj
      rw [List.getElem_set]
      split
      · rename_i e;subst e;rfl
      · rfl
    refine ⟨k,hk1,fun j hj hjk=>?_,fun j hj hjk=>?_,?_⟩
    · have:=h3 j (by simpa using hj) hjk
      rw [hid j hj] at this;exact this
    · have:=h4 j (by simpa using hj) hjk
      rw [hid j hj] at this;exact this
    · rw [h2,Option.bind_some]
      simp only
      rw [show (Zaa.mk o.Other o.Past (l[i]).State o.Key (l[i]).To (List.drop (cutN (l[i]).Jobs o.Key) (l[i]).Jobs) (l[i]).Seen)=ZgK (l[i]) o from rfl,Zif _ _ k (by simpa using hk1) (by simp;omega)]
      rfl
end Go.T
set_option linter.unusedVariables false
set_option linter.unusedSimpArgs false
namespace Go.T
open Go Go.Ab
theorem Zmw (o:Zae) (l:List Zaa) (hl:l.length≤1000) (hs:SrtId l) (hg:Zao FM o.Shard l=some (.inl ())):ZaK FM o l=some (errR 172,noS,l):=by
  unfold ZaK
  rw [hg]
  simp only [Option.bind_some,Sum.elim_inl]
  have ht:=ZlA l o.Shard o.Epoch hg
  rcases Ze5 l o.Other hl hs with ⟨k,hk,h1,h2,h3⟩ | ⟨h1,h3⟩
  · rw [h3]
    simp only [Option.bind_some,Sum.elim_inr,ht,Sum.elim_inl]
    rfl
  · rw [h3]
    simp only [Option.bind_some,Sum.elim_inl,ht]
    rfl
theorem Zk6 (o : Zae) (l : List Zaa) (hl : l.length ≤ 1000) (hs : SrtId l) (i : Nat) (h : i < l.length) (hg : Zao FM o.Shard l = some (.inr i)) (hne : (l[i]).Epoch ≠ o.Epoch) :
    ∃ e,ZaK FM o l=some (errR e,noS,l):=by
  have ht:=ZiY l i h o.Shard o.Epoch hg
  rw [if_pos hne] at ht
  unfold ZaK
  rw [hg]
  simp only [Option.bind_some,Sum.elim_inr]
  rcases Ze5 l o.Other hl hs with ⟨k,hk,h1,h2,h3⟩ | ⟨h1,h3⟩
  · rw [h3]
    simp only [Option.bind_some,Sum.elim_inr,ht,Sum.elim_inl]
    exact ⟨171,rfl⟩
  · rw [h3]
    simp only [Option.bind_some,Sum.elim_inl,ht,List.getElem?_eq_getElem h]
    by_cases c:(l[i]).Epoch=o.Past
    · rw [show ((l[i]).Epoch==o.Past)=true by simpa using c]
      exact ⟨0,rfl⟩
    · rw [show ((l[i]).Epoch==o.Past)=false by simpa using c]
      exact ⟨171,rfl⟩
theorem Zn6 (a b:List Zaf) (ha:a.length≤1000) (hb:b.length≤1000):Za4 FM [a,b]=some (a++b):=by
  have w1:IntKind.wrap IntKind.i64 (0+(a.length:Int))=(a.length:Int):=by rw [IntKind.wrap_i64];omega
  have w2:IntKind.wrap IntKind.i64 ((a.length:Int)+(b.length:Int))=((a.length+b.length:Nat):Int):=by rw [IntKind.wrap_i64];omega
  have w3:IntKind.wrap IntKind.i64 ((0:Int)+1)=1:=rfl
  have w4:IntKind.wrap IntKind.i64 ((1:Int)+1)=2:=rfl
  have h0:Zax FM [a,b] FM 0 0=some ((a.length+b.length:Nat):Int):=by
    show Zax FM [a,b] (3999997+1+1+1) 0 0=_
    unfold Zax
    simp only [List.length_cons,List.length_nil,List.length_map]
    rw [show decide ((0:Int)<((0+1+1:Nat):Int))=true from rfl,cond_true,show decide ((0:Int)≤0)=true from rfl,cond_true]
    simp only [show Int.toNat 0=0 from rfl,List.getElem?_cons_zero,Option.bind_some,w1,w3]
    rw [decide_eq_false (by omega),cond_false]
    unfold Zax
    simp only [List.length_cons,List.length_nil,List.length_map]
    rw [show decide ((1:Int)<((0+1+1:Nat):Int))=true from rfl,cond_true,show decide ((0:Int)≤1)=true from rfl,cond_true]
    simp only [show Int.toNat 1=1 from rfl,List.getElem?_cons_zero,List.getElem?_cons_succ,Option.bind_some,w2,w4]
    rw [decide_eq_false (by omega),cond_false]
    unfold Zax
    simp only [List.length_cons,List.length_nil,List.length_map]
    rfl
  have h1:∀ g,g=([]:List Zaf)→Zaw FM [a,b] FM 0 g=some (a++b):=by
    rintro _ rfl
    show Zaw FM [a,b] (3999997+1+1+1) 0 []=_
    unfold Zaw
    simp only [List.length_cons,List.length_nil]
    rw [show decide ((0:Int)<((0+1+1:Nat):Int))=true from rfl,cond_true,show decide ((0:Int)≤0)=true from rfl,cond_true]
    simp only [show Int.toNat 0=0 from rfl,List.getElem?_cons_zero,Option.bind_some,w3,List.nil_append]
    rw [decide_eq_true (by simp only [LIM];omega),cond_true]
    unfold Zaw
    simp only [List.length_cons,List.length_nil]
    rw [show decide ((1:Int)<((0+1+1:Nat):Int))=true from rfl,cond_true,show decide ((0:Int)≤1)=true from rfl,cond_true]
    simp only [show Int.toNat 1=1 from rfl,List.getElem?_cons_zero,List.getElem?_cons_succ,Option.bind_some,w4]
    rw [decide_eq_true (by simp only [LIM];omega),cond_true]
    unfold Zaw
    rfl
  unfold Za4
  rw [h0,Option.bind_some]
  have hg:Zbk FM ((a.length+b.length:Nat):Int)=some []:=by
    unfold Zbk
    rw [decide_eq_true (by simp only [LIM];omega),cond_true]
  rw [hg,Option.bind_some,h1 _ rfl]
  rfl
def Zc1 (s t:Zaa) (o:Zae):Zaa:=⟨s.Id,o.Past,s.State,s.From,t.To,s.Jobs++t.Jobs,s.Seen⟩
theorem ZoR (o : Zae) (l : List Zaa) (hl : l.length ≤ 1000) (hs : SrtId l) (i k : Nat) (h : i < l.length) (hk : k < l.length)
    (hg:Zao FM o.Shard l=some (.inr i)) (hg2:Zao FM o.Other l=some (.inr k)) (hik:i≠k) (hid:(l[i]).Id=o.Shard) (hid2:(l[k]).Id=o.Other)
    (he:(l[i]).Epoch=o.Epoch) (he2:(l[k]).Epoch=o.State.Epoch) (hs1:(l[i]).State=1) (hs2:(l[k]).State=1)
    (hp:(if (l[k]).Epoch > (l[i]).Epoch then (l[k]).Epoch else (l[i]).Epoch)<o.Past∧o.Past≤1099511627776)
    (ht:(l[i]).To≠[]) (htf:(l[i]).To=(l[k]).From) (hj:(l[i]).Jobs.length+(l[k]).Jobs.length≤256) (hjo:ZdJ FM (l[i]).Seen (l[k]).Seen=some ((l[i]).Seen,0)) :
    ZaK FM o l=some (errR 0,noS,(l.set i (Zc1 (l[i]) (l[k]) o)).set k (gone (l[k]))):=by
  have hth:=ZiY l i h o.Shard o.Epoch hg
  rw [if_neg (by simpa using he)] at hth
  have hne:(o.Other==o.Shard)=false:=by
    rw [beq_eq_false_iff_ne]
    intro e
    exact hik (ZhT hs h hk (by rw [hid,hid2,e]))
  unfold ZaK
  rw [hg]
  simp only [Option.bind_some,Sum.elim_inr]
  rw [hg2]
  simp only [Option.bind_some,Sum.elim_inr]
  rw [hth]
  simp only [Option.bind_some,Sum.elim_inr,show ((0:Int) != 0)=false from rfl,cond_false,hne,List.getElem?_eq_getElem h,List.getElem?_eq_getElem hk]
  rw [show ((l[k]).Epoch != o.State.Epoch)=false by simpa using he2,cond_false,show ((l[i]).State != 1)=false by simpa using hs1,cond_false,show ((l[k]).State != 1)=false by simpa using hs2]
  simp only [Option.bind_some,cond_false]
  rw [ZkY,Option.bind_some,decide_eq_true hp,Bool.not_true,cond_false,show ((l[i]).To==([]:List UInt8))=false by simpa using ht,cond_false,show ((l[i]).To==(l[k]).From)=true by simpa using htf]
  simp only [Option.bind_some,cond_false,Bool.not_true]
  rw [show IntKind.wrap IntKind.i64 (((l[i]).Jobs.length:Int)+((l[k]).Jobs.length:Int))=(((l[i]).Jobs.length+(l[k]).Jobs.length:Nat):Int) by rw [IntKind.wrap_i64];omega,decide_eq_false (by omega),cond_false,
    Zn6 _ _ (by omega) (by omega),Option.bind_some]
  simp only [List.getElem?_set_self h,Option.bind_some,Zg7,List.getElem?_set_self (show i<(l.set i _).length by simpa using h)]
  rw [List.getElem?_set_ne hik,List.getElem?_eq_getElem hk]
  simp only [Option.bind_some,hjo]
  have hm:(Zaa.mk (l[i]).Id o.Past (l[i]).State (l[i]).From (l[k]).To ((l[i]).Jobs++(l[k]).Jobs) (l[i]).Seen)=Zc1 (l[i]) (l[k]) o:=rfl
  rw [hm]
  have hsn:=ZkL hs i h (Zc1 (l[i]) (l[k]) o) rfl
  have hk':k<(l.set i (Zc1 (l[i]) (l[k]) o)).length:=by simpa using hk
  have hgk:(l.set i (Zc1 (l[i]) (l[k]) o))[k]=l[k]:=List.getElem_set_ne hik hk'
  have hd:=Zkq (l.set i (Zc1 (l[i]) (l[k]) o)) k hk' (by rw [hgk,hs2];decide) (by simpa using hl) hsn
  rw [hgk,hid2] at hd
  rw [hd]
  rfl
end Go.T
set_option linter.unusedVariables false
set_option linter.unusedSimpArgs false
namespace Go.T
open Go Go.Ab
def look (l:List Zaa) (id:Int):Option Zaa:=l.find? fun s=>s.Id==id
def put:List Zaa→Zaa→List Zaa
  | [],s=>[s]
  | x::l,s=>if s.Id<x.Id then s::x::l else if x.Id=s.Id then s::l else x::put l s
theorem Zje (id:Int):look [] id=none:=rfl
theorem ZdK (x:Zaa) (l:List Zaa) (id:Int):look (x::l) id=if x.Id=id then some x else look l id:=by
  unfold look
  rw [List.find?_cons]
  by_cases h:x.Id=id
  · rw [if_pos h,show (x.Id==id)=true by simpa using h]
  · rw [if_neg h,show (x.Id==id)=false by simpa using h]
theorem ZbM {l:List Zaa} {id:Int} {s:Zaa} (h:look l id=some s):s∈l∧s.Id=id:=by
  unfold look at h
  exact ⟨List.mem_of_find?_eq_some h,by simpa using List.find?_some h⟩
theorem Zia {l:List Zaa} {id:Int}:look l id=none↔∀ s,s∈l→s.Id≠id:=by
  unfold look
  rw [List.find?_eq_none]
  simp
theorem Zeo {x:Zaa} {l:List Zaa}:SrtId (x::l)↔(∀ y,y∈l→x.Id<y.Id)∧SrtId l:=List.pairwise_cons
theorem ZhJ {l:List Zaa} (hs:SrtId l) {s:Zaa} (h:s∈l):look l s.Id=some s:=by
  induction l with
  | nil=>cases h
  | cons x l ih =>
    rw [Zeo] at hs
    rw [ZdK]
    rcases List.mem_cons.1 h with h | h
    · subst h;rw [if_pos rfl]
    · have:=hs.1 s h
      rw [if_neg (by omega)]
      exact ih hs.2 h
theorem Zjf {l:List Zaa} (hs:SrtId l) (i:Nat) (h:i<l.length):look l (l[i]).Id=some (l[i]):=ZhJ hs (List.getElem_mem h)
theorem ZoV (l:List Zaa) (x:Zaa) (id:Int):look (put l x) id=if id=x.Id then some x else look l id:=by
  induction l with
  | nil =>
    show look [x] id=_
    rw [ZdK]
    by_cases h:id=x.Id
    · rw [if_pos h,if_pos h.symm]
    · rw [if_neg h,if_neg (fun e=>h e.symm)]
  | cons y l ih =>
    unfold put
    by_cases h1:x.Id<y.Id
    · rw [if_pos h1,ZdK]
      by_cases h:id=x.Id
      · rw [if_pos h,if_pos h.symm]
      · rw [if_neg h,if_neg (fun e=>h e.symm)]
    · rw [if_neg h1]
      by_cases h2:y.Id=x.Id
      · rw [if_pos h2,ZdK,ZdK,h2]
        by_cases h:id=x.Id
        · rw [if_pos h,if_pos h.symm]
        · rw [if_neg h,if_neg (fun e=>h e.symm),if_neg (fun e=>h e.symm)]
      · rw [if_neg h2,ZdK,ZdK,ih]
        by_cases h:y.Id=id
        · rw [if_pos h,if_pos h,if_neg (by omega)]
        · rw [if_neg h,if_neg h]
theorem Zp0 {l:List Zaa} {x s:Zaa} (h:s∈put l x):s=x∨s∈l:=by
  induction l with
  | nil=>simpa [put] using h
  | cons y l ih =>
    unfold put at h
    split at h
    · rcases List.mem_cons.1 h with h | h
      · exact .inl h
      · exact .inr h
    · split at h
      · rcases List.mem_cons.1 h with h | h
        · exact .inl h
        · exact .inr (List.mem_cons_of_mem _ h)
      · rcases List.mem_cons.1 h with h | h
        · exact .inr (by rw [h];exact List.mem_cons_self)
        · rcases ih h with h | h
          · exact .inl h
          · exact .inr (List.mem_cons_of_mem _ h)
theorem ZpO {l:List Zaa} (hs:SrtId l) (x:Zaa):SrtId (put l x):=by
  induction l with
  | nil=>exact List.pairwise_singleton _ _
  | cons y l ih =>
    rw [Zeo] at hs
    unfold put
    split
    · rename_i h1
      rw [Zeo,Zeo]
      refine ⟨fun z hz=>?_,hs⟩
      rcases List.mem_cons.1 hz with hz | hz
      · subst hz;exact h1
      · have:=hs.1 z hz;omega
    · split
      · rename_i h2
        rw [Zeo]
        exact ⟨fun z hz=>by have:=hs.1 z hz;omega,hs.2⟩
      · rw [Zeo]
        refine ⟨fun z hz=>?_,ih hs.2⟩
        rcases Zp0 hz with hz | hz
        · subst hz;omega
        · exact hs.1 z hz
theorem ZhH {l:List Zaa} (hs:SrtId l) {x:Zaa} (h:look l x.Id=some x):put l x=l:=by
  induction l with
  | nil=>cases h
  | cons y l ih =>
    rw [Zeo] at hs
    rw [ZdK] at h
    unfold put
    by_cases c:y.Id=x.Id
    · rw [if_pos c] at h
      rw [if_neg (by omega),if_pos c,Option.some.inj h]
    · rw [if_neg c] at h
      have h2:=ZbM h
      have:=hs.1 x h2.1
      rw [if_neg (by omega),if_neg c,ih hs.2 h]
theorem ZoL (x:Zaa) (l:List Zaa) (s:Zaa):put (x::l) s=if s.Id<x.Id then s::x::l else if x.Id=s.Id then s::l else x::put l s:=rfl
theorem Zfv {l:List Zaa} (hs:SrtId l) (i:Nat) (h:i<l.length) (x:Zaa) (hx:x.Id=(l[i]).Id):l.set i x=put l x:=by
  induction l generalizing i with
  | nil=>simp at h
  | cons y l ih =>
    rw [Zeo] at hs
    cases i with
    | zero =>
      simp only [List.getElem_cons_zero] at hx
      unfold put
      rw [if_neg (by omega),if_pos hx.symm];rfl
    | succ i =>
      simp only [List.getElem_cons_succ] at hx
      have hi:i<l.length:=by simpa using h
      have:=hs.1 (l[i]) (List.getElem_mem hi)
      unfold put
      rw [if_neg (by omega),if_neg (by omega),List.set_cons_succ,ih hs.2 i hi hx]
theorem Zk9 (l:List Zaa) (i:Nat) (x:Zaa) (h:i≤l.length) (h1:∀ k (h:k<l.length),k<i→(l[k]).Id<x.Id) (h2:∀ k (h:k<l.length),i≤k→x.Id<(l[k]).Id):l.take i++x::l.drop i=put l x:=by
  induction l generalizing i with
  | nil=>simp [put]
  | cons y l ih =>
    cases i with
    | zero =>
      have:=h2 0 (by simp) (Nat.le_refl _)
      simp only [List.getElem_cons_zero] at this
      unfold put
      rw [if_pos this];rfl
    | succ i =>
      have:=h1 0 (by simp) (by omega)
      simp only [List.getElem_cons_zero] at this
      unfold put
      rw [if_neg (by omega),if_neg (by omega),List.take_succ_cons,List.drop_succ_cons,List.cons_append,
        ih i (by simpa using h) (fun k hk hki=>by have:=h1 (k+1) (by simpa using hk) (by omega);simpa using this) (fun k hk hki=>by have:=h2 (k+1) (by simpa using hk) (by omega);simpa using this)]
theorem ZhL (l : List Zaa) (id : Int) (hl : l.length ≤ 1000) (hs : SrtId l) :
    (∃ (i:Nat) (h:i<l.length),(l[i]).Id=id∧(l[i]).State≠4∧look l id=some (l[i])∧Zao FM id l=some (.inr i)) ∨
    ((∀ s,look l id=some s→s.State=4)∧Zao FM id l=some (.inl ())):=by
  rcases Ze5 l id hl hs with ⟨i,h,h1,h2,h3⟩ | ⟨h1,h2⟩
  · exact .inl ⟨i,h,h1,h2,by rw [← h1];exact Zjf hs i h,h3⟩
  · exact .inr ⟨fun s hsm=>h1 s (ZbM hsm).1 (ZbM hsm).2,h2⟩
theorem ZfA {l:List Zaa} {id:Int} {s:Zaa} (h:look l id=some s):∃ (i:Nat) (hi:i<l.length),l[i]=s∧(l[i]).Id=id:=by
  obtain ⟨h1,h2⟩:=ZbM h
  obtain ⟨i,hi,e⟩:=List.getElem_of_mem h1
  exact ⟨i,hi,e,by rw [e];exact h2⟩
end Go.T
set_option linter.unusedVariables false
set_option linter.unusedSimpArgs false
namespace Go.T
open Go Go.Ab
theorem Zb9 {x:Int} (h1 : -9223372036854775808≤x) (h2:x≤9223372036854775807):IntKind.wrap IntKind.i64 x=x:=by
  rw [IntKind.wrap_i64];omega
theorem Zit {ρ : Type} (L : Nat → Int → Option (ρ ⊕ Unit)) (len : Nat) (good : Nat → Bool) (bad : ρ)
    (h1:∀ n (i:Nat),i<len→L (n+1) i=cond (good i) (L n ((i:Int)+1)) (some (.inl bad)))
    (h2:∀ n (i:Nat),len≤i→L (n+1) i=some (.inr ())) :
    ∀ n (i:Nat),len - i<n→((∀ j,i≤j→j<len→good j=true)∧L n i=some (.inr ()))∨((∃ j,i≤j∧j<len∧good j=false)∧L n i=some (.inl bad)):=by
  intro n
  induction n with
  | zero=>intro i h;omega
  | succ n ih =>
    intro i h
    by_cases hi:i<len
    · rw [h1 n i hi]
      cases hg:good i with
      | true =>
        rw [cond_true,show ((i:Int)+1)=((i+1:Nat):Int) by omega]
        rcases ih (i+1) (by omega) with ⟨h3,h4⟩ | ⟨⟨j,h3,h4,h5⟩,h6⟩
        · refine .inl ⟨fun j hj1 hj2=>?_,h4⟩
          by_cases e:j=i
          · subst e;exact hg
          · exact h3 j (by omega) hj2
        · exact .inr ⟨⟨j,by omega,h4,h5⟩,h6⟩
      | false=>exact .inr ⟨⟨i,Nat.le_refl _,hi,hg⟩,rfl⟩
    · exact .inl ⟨fun j h1 h2=>by omega,h2 n i (by omega)⟩
theorem ZhM (L : Nat → Int → Option (Int ⊕ Unit)) (len : Nat) (hit : Nat → Bool)
    (h1:∀ n (i:Nat),i<len→L (n+1) i=cond (hit i) (some (.inl (i:Int))) (L n ((i:Int)+1)))
    (h2:∀ n (i:Nat),len≤i→L (n+1) i=some (.inr ())) :
    ∀ n (i:Nat),len - i<n→(∃ j:Nat,i≤j∧j<len∧hit j=true∧(∀ k,i≤k→k<j→hit k=false)∧L n i=some (.inl (j:Int)))∨((∀ k,i≤k→k<len→hit k=false)∧L n i=some (.inr ())):=by
  intro n
  induction n with
  | zero=>intro i h;omega
  | succ n ih =>
    intro i h
    by_cases hi:i<len
    · rw [h1 n i hi]
      cases hg:hit i with
      | true=>exact .inl ⟨i,Nat.le_refl _,hi,hg,fun k h1 h2=>by omega,rfl⟩
      | false =>
        rw [cond_false,show ((i:Int)+1)=((i+1:Nat):Int) by omega]
        rcases ih (i+1) (by omega) with ⟨j,h3,h4,h5,h6,h7⟩ | ⟨h3,h4⟩
        · refine .inl ⟨j,by omega,h4,h5,fun k hk1 hk2=>?_,h7⟩
          by_cases e:k=i
          · subst e;exact hg
          · exact h6 k (by omega) hk2
        · refine .inr ⟨fun k hk1 hk2=>?_,h4⟩
          by_cases e:k=i
          · subst e;exact hg
          · exact h3 k (by omega) hk2
    · exact .inr ⟨fun k h1 h2=>by omega,h2 n i (by omega)⟩
def nameB (c:UInt8):Bool:=decide (97≤c.toNat∧c.toNat≤122) || decide (48≤c.toNat∧c.toNat≤57) || c.toNat==45 || c.toNat==46
def nm (s:List UInt8):Bool:=s.all nameB && decide (1≤s.length) && decide (s.length≤16)
def at_ (s:List UInt8) (i:Nat):Bool:=match s[i]? with | some c=>nameB c | none=>true
theorem at_lt {s:List UInt8} {i:Nat} (h:i<s.length):at_ s i=nameB s[i]:=by simp [at_,h]
theorem Zok {s:List UInt8}:(∀ j,0≤j→j<s.length→at_ s j=true)↔s.all nameB=true:=by
  rw [List.all_eq_true]
  constructor
  · intro H x hx
    obtain ⟨i,hi,rfl⟩:=List.getElem_of_mem hx
    have:=H i (Nat.zero_le _) hi
    rwa [at_lt hi] at this
  · intro H j _ h;rw [at_lt h];exact H _ (List.getElem_mem h)
theorem Zd3 {F:Nat} {s:List UInt8} (hs:s.length≤1048576) (hF:1048577≤F):ZdB F s=some (nm s):=by
  have hl:=Zit (fun n i=>Zc2 F s n i) s.length (at_ s) false
    (fun n i hi=>by
      simp only [Zc2]
      have e1:(decide ((i:Int)<((List.length s:Nat):Int)))=true:=by simp [hi]
      have e2:decide ((0:Int)≤(i:Int))=true:=by simp
      simp only [e1,e2,cond_true,Int.toNat_natCast,List.getElem?_map,List.getElem?_eq_getElem hi,Option.map_some,Option.bind_some]
      rw [Zb9 (by omega) (by omega)]
      rw [at_lt hi]
      simp only [nameB]
      generalize s[i].toNat=c
      have k1:decide (97≤c∧c≤122)=(!decide ((c:Int)<97) && !decide (122<(c:Int))):=by rw [Bool.eq_iff_iff];simp;omega
      have k2:decide (48≤c∧c≤57)=(!decide ((c:Int)<48) && !decide (57<(c:Int))):=by rw [Bool.eq_iff_iff];simp;omega
      have k3:(c==45) = !((c:Int) != 45):=by rw [Bool.eq_iff_iff];simp;omega
      have k4:(c==46) = !((c:Int) != 46):=by rw [Bool.eq_iff_iff];simp;omega
      rw [k1,k2,k3,k4]
      generalize decide ((c:Int)<97)=b1
      generalize decide (122<(c:Int))=b2
      generalize decide ((c:Int)<48)=b3
      generalize decide (57<(c:Int))=b4
      generalize ((c:Int) != 45)=b5
      generalize ((c:Int) != 46)=b6
      cases b1<;>cases b2<;>cases b3<;>cases b4<;>cases b5<;>cases b6<;>simp)
    (fun n i hi=>by
      simp only [Zc2]
      have e1:(decide ((i:Int)<((List.length s:Nat):Int)))=false:=by simp;omega
      simp only [e1,cond_false]) F 0 (by omega)
  unfold ZdB
  have e1:decide (List.length s≤LIM)=true:=decide_eq_true (by unfold LIM;omega)
  simp only [e1,cond_true]
  simp only [Int.natCast_zero] at hl
  unfold nm
  rcases hl with ⟨ha,hl⟩ | ⟨⟨j,_,hj,ha⟩,hl⟩
  · rw [hl,Zok.1 ha]
    simp only [Option.bind_some,Sum.elim_inr,Bool.true_and]
    have k1:decide ((1:Int)≤((s.length:Nat):Int))=decide (1≤s.length):=decide_eq_decide.2 (by omega)
    have k1':decide ((0:Int)<((s.length:Nat):Int))=decide (1≤s.length):=decide_eq_decide.2 (by omega)
    have k2:decide (((s.length:Nat):Int)≤16)=decide (s.length≤16):=decide_eq_decide.2 (by omega)
    first | rw [k1,k2] | rw [k1',k2]
    cases decide (1≤s.length)<;>cases decide (s.length≤16)<;>rfl
  · rw [hl]
    have:s.all nameB=false:=by
      cases hx:s.all nameB with
      | false=>rfl
      | true=>rw [Zok.2 hx j (Nat.zero_le _) hj] at ha;cases ha
    rw [this];rfl
end Go.T
set_option linter.unusedVariables false
set_option linter.unusedSimpArgs false
namespace Go.T
open Go Go.Ab
theorem ZkA (x:List UInt8):Op.bytesLess x []=false:=by cases x<;>rfl
theorem Zjx (a b:UInt8) (x y:List UInt8):Op.bytesLess (a::x) (b::y)=(decide (a<b) || (a==b && Op.bytesLess x y)):=by
  simp [Op.bytesLess]
theorem Zgg:∀ (x y z:List UInt8),Op.bytesLess x y=true→Op.bytesLess y z=true→Op.bytesLess x z=true:=by
  intro x
  induction x with
  | nil =>
    intro y z h1 h2
    cases z with
    | nil=>rw [ZkA] at h2;cases h2
    | cons c z=>rfl
  | cons a x ih =>
    intro y z h1 h2
    cases y with
    | nil=>rw [ZkA] at h1;cases h1
    | cons b y =>
      cases z with
      | nil=>rw [ZkA] at h2;cases h2
      | cons c z =>
        rw [Zjx] at h1 h2 ⊢
        simp only [Bool.or_eq_true,decide_eq_true_eq,Bool.and_eq_true,beq_iff_eq,UInt8.lt_iff_toNat_lt] at h1 h2 ⊢
        rcases h1 with h1 | ⟨rfl,h1⟩
        · rcases h2 with h2 | ⟨rfl,h2⟩
          · left;omega
          · left;exact h1
        · rcases h2 with h2 | ⟨rfl,h2⟩
          · left;exact h2
          · exact .inr ⟨rfl,ih y z h1 h2⟩
theorem ZkB (x:List UInt8):Op.bytesLess x x=false:=by
  induction x with
  | nil=>rfl
  | cons a x ih=>rw [Zjx,ih];simp [UInt8.lt_iff_toNat_lt]
theorem Zof:∀ (x y:List UInt8),Op.bytesLess x y=true∨x=y∨Op.bytesLess y x=true:=by
  intro x
  induction x with
  | nil =>
    intro y
    cases y with
    | nil=>exact .inr (.inl rfl)
    | cons b y=>exact .inl rfl
  | cons a x ih =>
    intro y
    cases y with
    | nil=>exact .inr (.inr rfl)
    | cons b y =>
      rw [Zjx,Zjx]
      simp only [Bool.or_eq_true,decide_eq_true_eq,Bool.and_eq_true,beq_iff_eq,UInt8.lt_iff_toNat_lt]
      rcases Nat.lt_trichotomy a.toNat b.toNat with q | q | q
      · exact .inl (.inl q)
      · have:a=b:=UInt8.toNat_inj.1 q
        subst this
        rcases ih y with h | h | h
        · exact .inl (.inr ⟨rfl,h⟩)
        · subst h;exact .inr (.inl rfl)
        · exact .inr (.inr (.inr ⟨rfl,h⟩))
      · exact .inr (.inr (.inl q))
theorem Zjy (x y:List UInt8) (h:Op.bytesLess x y=true):Op.bytesLess y x=false:=by
  cases e:Op.bytesLess y x with
  | false=>rfl
  | true=>have:=Zgg _ _ _ h e;rw [ZkB] at this;cases this
def ZkG {α:Type} (L:Nat→Int→Option (Bool ⊕ Unit)) (l:List α) (r:α→Option Bool) (lt:α→α→Bool) (n i:Nat):Prop :=
  ((∀ k (h : k < l.length), i ≤ k → r l[k] = some true ∧ ∀ h0 : 0 < k, lt (l[k - 1]'(by omega)) l[k] = true) → L n i = some (.inr ())) ∧
      (L n i=some (.inr ())→∀ k (h:k<l.length),i≤k→r l[k]=some true∧∀ h0:0<k,lt (l[k - 1]'(by omega)) l[k]=true) ∧
      ((∀ x,x∈l→∃ b,r x=some b)→L n i=some (.inr ())∨L n i=some (.inl false))∧L n i≠some (.inl true)
theorem Zls {α : Type} (L : Nat → Int → Option (Bool ⊕ Unit)) (l : List α) (r : α → Option Bool) (lt : α → α → Bool)
    (h1:∀ n (i:Nat) (h:i<l.length),L (n+1) i=Option.bind (r l[i]) fun y=>bif !y then some (.inl false) else if h0:0<i then (bif lt (l[i - 1]'(by omega)) l[i] then L n ((i:Int)+1) else some (.inl false)) else L n ((i:Int)+1))
    (h2:∀ n (i:Nat),l.length≤i→L (n+1) i=some (.inr ())) :
    ∀ n (i:Nat),l.length - i<n→ZkG L l r lt n i:=by
  unfold ZkG
  intro n
  induction n with
  | zero=>intro i h;omega
  | succ n ih =>
    intro i h
    by_cases hi:i<l.length
    · rw [h1 n i hi]
      obtain ⟨i1,i2,i3,i4⟩:=ih (i+1) (by omega)
      rw [show ((i:Int)+1)=((i+1:Nat):Int) by omega]
      refine ⟨fun H=>?_,fun H=>?_,fun H=>?_,?_⟩
      · obtain ⟨a,b⟩:=H i hi (Nat.le_refl _)
        rw [a]
        simp only [Option.bind_some,Bool.not_true,cond_false]
        have:=i1 fun k hk hk2=>H k hk (by omega)
        by_cases h0:0<i
        · rw [dif_pos h0,b h0,cond_true,this]
        · rw [dif_neg h0,this]
      · cases hr:r l[i] with
        | none=>rw [hr] at H;cases H
        | some y =>
          rw [hr] at H
          cases y with
          | false=>simp at H
          | true =>
            simp only [Option.bind_some,Bool.not_true,cond_false] at H
            have key:(∀ h0:0<i,lt (l[i - 1]'(by omega)) l[i]=true)∧L n ((i+1:Nat):Int)=some (.inr ()):=by
              by_cases h0:0<i
              · rw [dif_pos h0] at H
                cases hl:lt (l[i - 1]'(by omega)) l[i] with
                | false=>rw [hl] at H;simp at H
                | true=>rw [hl,cond_true] at H;exact ⟨fun _=>by first | exact hl | rfl,H⟩
              · rw [dif_neg h0] at H
                exact ⟨fun q=>absurd q h0,H⟩
            intro k hk hik
            by_cases e:k=i
            · subst e;exact ⟨hr,key.1⟩
            · exact i2 key.2 k hk (by omega)
      · obtain ⟨b,hb⟩:=H _ (List.getElem_mem hi)
        rw [hb]
        cases b with
        | false=>exact .inr rfl
        | true =>
          simp only [Option.bind_some,Bool.not_true,cond_false]
          have:=i3 H
          by_cases h0:0<i
          · rw [dif_pos h0]
            cases lt (l[i - 1]'(by omega)) l[i] with
            | false=>exact .inr rfl
            | true=>exact this
          · rw [dif_neg h0];exact this
      · cases r l[i] with
        | none=>simp
        | some y =>
          cases y with
          | false=>simp
          | true =>
            simp only [Option.bind_some,Bool.not_true,cond_false]
            by_cases h0:0<i
            · rw [dif_pos h0]
              cases lt (l[i - 1]'(by omega)) l[i] with
              | false=>simp
              | true=>exact i4
            · rw [dif_neg h0];exact i4
    · rw [h2 n i (by omega)]
      exact ⟨fun _=>rfl,fun _ k hk hik=>by omega,fun _=>.inl rfl,by simp⟩
theorem Zht {α:Type} (lt:α→α→Bool) (ht:∀ x y z,lt x y=true→lt y z=true→lt x z=true) (l:List α) (h:∀ k (hk:k<l.length) (h0:0<k),lt (l[k - 1]'(by omega)) l[k]=true):l.Pairwise fun a b=>lt a b=true:=by
  rw [List.pairwise_iff_getElem]
  intro i j hi hj hij
  obtain ⟨d,rfl⟩:∃ d,j=i+1+d:=⟨j - i - 1,by omega⟩
  clear hij
  induction d with
  | zero=>exact h (i+1) hj (by omega)
  | succ d ih =>
    exact ht _ _ _ (ih (by omega)) (h (i+1+(d+1)) hj (by omega))
theorem ZjW {α:Type} (lt:α→α→Bool) (l:List α) (h:l.Pairwise fun a b=>lt a b=true):∀ k (hk:k<l.length) (h0:0<k),lt (l[k - 1]'(by omega)) l[k]=true:=by
  rw [List.pairwise_iff_getElem] at h
  exact fun k hk h0=>h (k - 1) k (by omega) hk (by omega)
theorem mwi (i:Nat) (h:i<9000000000000000000):IntKind.wrap IntKind.i64 ((i:Int)+1)=(i:Int)+1:=by rw [IntKind.wrap_i64];omega
theorem mwd (i:Nat) (h0:0<i) (h:i<9000000000000000000):IntKind.wrap IntKind.i64 ((i:Int) - 1)=((i - 1:Nat):Int):=by rw [IntKind.wrap_i64];omega
def JobsR (l:List Zaf):Prop:=(∀ j,j∈l→ZdA FM j=some true)∧(l.Pairwise fun a b=>Op.bytesLess a.Name b.Name=true)∧l.length≤256
theorem ZgU (l:List Zaf) (hl:l.length≤2000000):∀ n (i:Nat),l.length - i<n→ZkG (fun n i=>Zcb FM l n i) l (fun j=>ZdA FM j) (fun a b=>Op.bytesLess a.Name b.Name) n i :=
  Zls (fun n i=>Zcb FM l n i) l (fun j=>ZdA FM j) (fun a b=>Op.bytesLess a.Name b.Name)
  (fun n i h=>by
    simp only [Zcb]
    rw [decide_eq_true (by omega),cond_true]
    simp only [mg0,cond_true,mc,List.getElem?_eq_getElem h,Option.bind_some]
    rw [mwi i (by omega)]
    cases ZdA FM l[i] with
    | none=>rfl
    | some y =>
      cases y with
      | false=>rfl
      | true =>
        simp only [Option.bind_some,Bool.not_true,cond_false]
        by_cases h0:0<i
        · rw [dif_pos h0,decide_eq_true (by omega),cond_true,mwd i h0 (by omega),mg0,cond_true,mc,List.getElem?_eq_getElem (show i - 1<l.length by omega)]
          simp only [Option.bind_some]
          cases Op.bytesLess (l[i - 1]'(by omega)).Name l[i].Name<;>rfl
        · rw [dif_neg h0,decide_eq_false (by omega)]
          rfl)
  (fun n i h=>by
    simp only [Zcb]
    rw [decide_eq_false (by omega),cond_false])
theorem Zji (l:List Zaf) (h:JobsR l):ZdC FM l=some true:=by
  have:=(ZgU l (by have:=h.2.2;omega) FM 0 (by have:=h.2.2;show _<4000000;omega)).1 fun k hk _=>⟨h.1 _ (List.getElem_mem hk),fun h0=>ZjW _ l h.2.1 k hk h0⟩
  simp only [Int.natCast_zero] at this
  unfold ZdC
  rw [this]
  simp only [Option.bind_some,Sum.elim_inr,List.length_map]
  rw [decide_eq_true (by have:=h.2.2;omega)]
theorem Zka (l:List Zaf) (hl:l.length≤2000000) (h:ZdC FM l=some true):JobsR l:=by
  have hL:=(ZgU l hl FM 0 (by show _<4000000;omega)).2.1
  simp only [Int.natCast_zero] at hL
  unfold ZdC at h
  cases hq:Zcb FM l FM 0 with
  | none=>rw [hq] at h;cases h
  | some o =>
    rw [hq] at h
    cases o with
    | inl b =>
      simp only [Option.bind_some,Sum.elim_inl,Option.some.injEq] at h
      subst h
      exact absurd hq (ZgU l hl FM 0 (by show _<4000000;omega)).2.2.2
    | inr u =>
      have:=hL hq
      simp only [Option.bind_some,Sum.elim_inr,List.length_map,Option.some.injEq,decide_eq_true_eq] at h
      refine ⟨fun j hj=>?_,Zht (fun a b:Zaf=>Op.bytesLess a.Name b.Name) (fun x y z=>Zgg _ _ _) l fun k hk h0=>(this k hk (Nat.zero_le _)).2 h0,by omega⟩
      obtain ⟨k,hk,rfl⟩:=List.getElem_of_mem hj
      exact (this k hk (Nat.zero_le _)).1
def keyB (s:List UInt8):Bool:=s==[] || nm s
theorem Zj7 (s:List UInt8) (h:s.length≤1048576):Zd0 FM s=some (keyB s):=by
  unfold Zd0 keyB
  rw [Zd3 h (by decide)]
  cases (s==[])<;>rfl
def rngB (fr ta:List UInt8):Bool:=keyB fr && keyB ta && (ta==[] || !(Op.bytesLess ta fr || ta==fr))
def inB (fr ta name:List UInt8):Bool:=nm name && !Op.bytesLess name fr && (ta==[] || Op.bytesLess name ta)
theorem In_eq (s : Zaa) (name : List UInt8) (h1 : s.From.length ≤ 1048576) (h2 : s.To.length ≤ 1048576) (h3 : name.length ≤ 1048576) :
    Zdu FM s name=some (rngB s.From s.To && inB s.From s.To name):=by
  unfold Zdu rngB inB
  rw [Zj7 _ h1,Zj7 _ h2,Zd3 h3 (by decide)]
  cases keyB s.From<;>cases keyB s.To<;>cases (s.To==[])<;>cases (Op.bytesLess s.To s.From || s.To==s.From)<;>cases nm name<;>cases Op.bytesLess name s.From<;>cases Op.bytesLess name s.To<;>rfl
theorem ZiM (l : List Zaf) (s : Zaa) (hl : l.length ≤ 2000000) (h1 : s.From.length ≤ 1048576) (h2 : s.To.length ≤ 1048576) (h3 : ∀ j, j ∈ l → j.Name.length ≤ 1048576) :
    ((∀ j,j∈l→(rngB s.From s.To && inB s.From s.To j.Name)=true)∧Zat FM l s=some false) ∨
    ((∃ j,j∈l∧(rngB s.From s.To && inB s.From s.To j.Name)=false)∧Zat FM l s=some true):=by
  have hL:=ZhM (fun n i=>ZaC FM l s n i) l.length (fun i=>match l[i]? with | some j=>!(rngB s.From s.To && inB s.From s.To j.Name) | none=>false)
    (fun n i hi=>by
      simp only [ZaC,Zez]
      rw [decide_eq_true (by omega),cond_true]
      simp only [mg0,cond_true,mc,List.getElem?_eq_getElem hi,Option.bind_some,In_eq s _ h1 h2 (h3 _ (List.getElem_mem hi)),mwi i (by omega)])
    (fun n i hi=>by
      simp only [ZaC]
      rw [decide_eq_false (by omega),cond_false]) FM 0 (by show _<4000000;omega)
  simp only [Int.natCast_zero] at hL
  unfold Zat Zbm
  rcases hL with ⟨j,_,hj,hh,_,e⟩ | ⟨hh,e⟩
  · right
    rw [List.getElem?_eq_getElem hj] at hh
    refine ⟨⟨l[j],List.getElem_mem hj,by rw [Bool.not_eq_true'] at hh;exact hh⟩,?_⟩
    rw [e]
    simp
  · left
    refine ⟨fun j hj=>?_,?_⟩
    · obtain ⟨k,hk,rfl⟩:=List.getElem_of_mem hj
      have:=hh k (Nat.zero_le _) hk
      rw [List.getElem?_eq_getElem hk] at this
      simpa using this
    · rw [e];rfl
def ZpG (s:Zaa):Prop:=1≤s.Id∧1≤s.Epoch∧s.Epoch≤1099511627776∧1≤s.State∧s.State≤4∧rngB s.From s.To=true∧JobsR s.Jobs∧Zbl FM s.Seen=some true ∧
  (s.State=4→s.Jobs=[]∧s.Seen=[])∧∀ j,j∈s.Jobs→inB s.From s.To j.Name=true
theorem ZlN {s:List UInt8} (h:nm s=true):s.length≤16:=by
  unfold nm at h
  simp only [Bool.and_eq_true,decide_eq_true_eq] at h
  exact h.2
theorem ZnH {s:List UInt8} (h:keyB s=true):s.length≤16:=by
  unfold keyB at h
  rw [Bool.or_eq_true] at h
  rcases h with h | h
  · rw [beq_iff_eq] at h;subst h;simp
  · exact ZlN h
theorem ZkQ {fr ta:List UInt8} (h:rngB fr ta=true):fr.length≤16∧ta.length≤16:=by
  unfold rngB at h
  simp only [Bool.and_eq_true] at h
  exact ⟨ZnH h.1.1,ZnH h.1.2⟩
theorem ZqW {fr ta s:List UInt8} (h:inB fr ta s=true):s.length≤16:=by
  unfold inB at h
  simp only [Bool.and_eq_true] at h
  exact ZlN h.1.1
theorem ZhG (s:Zaa) (h:ZpG s) (hs:s.Seen.length≤2000000):Zb2 FM s=some true:=by
  obtain ⟨h1,h2,h3,h4,h5,h6,h7,h8,h9,h10⟩:=h
  have hr:=ZkQ h6
  have h6':=h6
  unfold rngB at h6'
  simp only [Bool.and_eq_true] at h6'
  have hc:Zat FM s.Jobs s=some false:=by
    rcases ZiM s.Jobs s (by have:=h7.2.2;omega) (by omega) (by omega) (fun j hj=>by have:=ZqW (h10 j hj);omega) with ⟨_,e⟩ | ⟨⟨j,hj,e⟩,_⟩
    · exact e
    · rw [h6,h10 j hj] at e;cases e
  unfold Zb2
  rw [decide_eq_false (by omega),cond_false,decide_eq_false (by omega),cond_false,decide_eq_false (by omega),cond_false,decide_eq_false (by omega),cond_false,decide_eq_false (by omega),cond_false,
    Zj7 _ (by omega),Zj7 _ (by omega),h6'.1.1,h6'.1.2]
  simp only [Option.bind_some,Bool.not_true,cond_false]
  have ht:(bif !(s.To==[]) then some (Op.bytesLess s.To s.From || s.To==s.From) else some false)=some false:=by
    have:=h6'.2
    revert this
    generalize (s.To==[])=b1
    generalize (Op.bytesLess s.To s.From || s.To==s.From)=b2
    cases b1<;>cases b2<;>simp
  rw [ht]
  simp only [Option.bind_some,cond_false,Zji _ h7,h8,Bool.not_true,hc,List.length_map]
  by_cases c:s.State=4
  · obtain ⟨e1,e2⟩:=h9 c
    rw [c,e1,e2];rfl
  · rw [show (s.State==4)=false by simpa using c];rfl
end Go.T
set_option linter.unusedVariables false
set_option linter.unusedSimpArgs false
namespace Go.T
open Go Go.Ab
def GoodS (s:Zaa):Prop:=ZpG s∧SB s
def GoodL (l:List Zaa):Prop:=SrtId l∧l.length≤64∧liveN l≤16∧∀ s,s∈l→GoodS s
theorem ZiG (l:List Zaa) (hl:l.length≤2000000):∀ n (i:Nat),l.length - i<n→ZkG (fun n i=>Zce FM l n i) l (fun j=>Zb2 FM j) (fun a b=>decide (a.Id<b.Id)) n i :=
  Zls (fun n i=>Zce FM l n i) l (fun j=>Zb2 FM j) (fun a b=>decide (a.Id<b.Id))
  (fun n i h=>by
    simp only [Zce]
    rw [decide_eq_true (by omega),cond_true]
    simp only [mg0,cond_true,mc,List.getElem?_eq_getElem h,Option.bind_some]
    rw [mwi i (by omega)]
    cases Zb2 FM l[i] with
    | none=>rfl
    | some y =>
      cases y with
      | false=>rfl
      | true =>
        simp only [Option.bind_some,Bool.not_true,cond_false]
        by_cases h0:0<i
        · rw [dif_pos h0,decide_eq_true (by omega),cond_true,mwd i h0 (by omega),mg0,cond_true,mc,List.getElem?_eq_getElem (show i - 1<l.length by omega)]
          simp only [Option.bind_some]
          by_cases c:(l[i - 1]'(by omega)).Id<(l[i]).Id
          · rw [decide_eq_true c,decide_eq_false (by omega)];rfl
          · rw [decide_eq_false c,decide_eq_true (by omega)];rfl
        · rw [dif_neg h0,decide_eq_false (by omega)]
          rfl)
  (fun n i h=>by
    simp only [Zce]
    rw [decide_eq_false (by omega),cond_false])
theorem ZmJ (l:List Zaa) (h:GoodL l):Zc0 FM l=some true:=by
  obtain ⟨h1,h2,h3,h4⟩:=h
  have hp:=List.pairwise_iff_getElem.1 h1
  have:=(ZiG l (by omega) FM 0 (by show _<4000000;omega)).1 fun k hk _ =>
    ⟨ZhG _ (h4 _ (List.getElem_mem hk)).1 (h4 _ (List.getElem_mem hk)).2.2.1,fun h0=>decide_eq_true (hp (k - 1) k (by omega) hk (by omega))⟩
  simp only [Int.natCast_zero] at this
  unfold Zc0
  rw [this]
  simp only [Option.bind_some,Sum.elim_inr]
  rw [decide_eq_true (by omega),cond_true,Zib l (by omega),Option.bind_some,decide_eq_true (by omega)]
theorem Zql (l:List Zaa) (h:∀ s,s∈l→SB s) (hl:l.length≤64):∀ (d i m:Nat),i+d=l.length→d<m→Zdk FM l m (i:Int) (l.take i)=some l:=by
  intro d
  induction d with
  | zero =>
    intro i m hi hm
    obtain ⟨m,rfl⟩:∃ k,m=k+1:=⟨m - 1,by omega⟩
    unfold Zdk
    rw [decide_eq_false (by omega),cond_false,List.take_of_length_le (by omega)]
  | succ d ih =>
    intro i m hi hm
    obtain ⟨m,rfl⟩:∃ k,m=k+1:=⟨m - 1,by omega⟩
    have hlt:i<l.length:=by omega
    unfold Zdk
    rw [decide_eq_true (by omega),cond_true]
    simp only [mg0,cond_true,mc,List.getElem?_eq_getElem hlt,Option.bind_some,Zg1 _ (h _ (List.getElem_mem hlt))]
    rw [decide_eq_true (by simp only [LIM,List.length_take];omega),cond_true,mwi i (by omega)]
    have e:l.take i++[Zaa.mk (l[i]).Id (l[i]).Epoch (l[i]).State (l[i]).From (l[i]).To (l[i]).Jobs (l[i]).Seen]=l.take (i+1):=by
      rw [List.take_succ_eq_append_getElem hlt]
    rw [e]
    exact ih (i+1) m (by omega) (by omega)
theorem Zpd (l : List Zaa) (o : Zae) (h : GoodL l) (X : List Zaa → Option (Zam × Zaa × List Zaa)) :
    (Option.bind (Zc0 FM l) fun y_0=>bif !y_0 then some ((Zam.mk (4:Int) (0:Int) []),(Zaa.mk (0:Int) (0:Int) (0:Int) ([]:List UInt8) ([]:List UInt8) [] []),[]) else Option.bind (Zdk FM l FM (0:Int) []) X)=X l:=by
  have hc:=Zql l (fun s hs=>(h.2.2.2 s hs).2) h.2.1 l.length 0 FM (by omega) (by have:=h.2.1;show _<4000000;omega)
  simp only [List.take_zero,Int.natCast_zero] at hc
  rw [ZmJ l h]
  simp only [Option.bind_some,Bool.not_true,cond_false,hc]
def does (o:Zae) (l:List Zaa):Option (Zam×Zaa×List Zaa) :=
  if o.Kind=2 then ZaY FM o l else if o.Kind=3 then Zbn FM o l else if o.Kind=4 then Za0 FM o l else
  if o.Kind=5 then Zbc FM o l else if o.Kind=6 then ZaM FM o l else if o.Kind=7 then ZaX FM o l else ZaK FM o l
theorem do_eq (l:List Zaa) (o:Zae) (h:GoodL l) (hk:2≤o.Kind∧o.Kind≤8) {e:Int} {s:Zaa} {m:List Zaa} (hd:does o l=some (errR e,s,m)):Ze3 FM l o=some (errR e,s,m):=by
  have hcl:Zai FM []=some []:=Zem [] (by simp)
  unfold Ze3
  rw [Zpd l o h]
  unfold does at hd
  have hn:∀ a b:Int,a≠b→(a==b)=false:=fun a b h=>by simpa using h
  simp only [Ze1,Option.bind_some]
  rw [hn o.Kind 1 (by omega),cond_false]
  by_cases c2:o.Kind=2
  · rw [if_pos c2] at hd
    rw [show (o.Kind==2)=true by simpa using c2,cond_true,hd]
    simp only [Option.bind_some,errR,hcl]
  rw [if_neg c2] at hd
  rw [hn _ _ c2,cond_false]
  by_cases c3:o.Kind=3
  · rw [if_pos c3] at hd
    rw [show (o.Kind==3)=true by simpa using c3,cond_true,hd]
    simp only [Option.bind_some,errR,hcl]
  rw [if_neg c3] at hd
  rw [hn _ _ c3,cond_false]
  by_cases c4:o.Kind=4
  · rw [if_pos c4] at hd
    rw [show (o.Kind==4)=true by simpa using c4,cond_true,hd]
    simp only [Option.bind_some,errR,hcl]
  rw [if_neg c4] at hd
  rw [hn _ _ c4,cond_false]
  by_cases c5:o.Kind=5
  · rw [if_pos c5] at hd
    rw [show (o.Kind==5)=true by simpa using c5,cond_true,hd]
    simp only [Option.bind_some,errR,hcl]
  rw [if_neg c5] at hd
  rw [hn _ _ c5,cond_false]
  by_cases c6:o.Kind=6
  · rw [if_pos c6] at hd
    rw [show (o.Kind==6)=true by simpa using c6,cond_true,hd]
    simp only [Option.bind_some,errR,hcl]
  rw [if_neg c6] at hd
  rw [hn _ _ c6,cond_false]
  by_cases c7:o.Kind=7
  · rw [if_pos c7] at hd
    rw [show (o.Kind==7)=true by simpa using c7,cond_true,hd]
    simp only [Option.bind_some,errR,hcl]
  rw [if_neg c7] at hd
  rw [hn _ _ c7,cond_false,show (o.Kind==8)=true by rw [beq_iff_eq];omega,cond_true,hd]
  simp only [Option.bind_some,errR,hcl]
end Go.T
set_option linter.unusedVariables false
set_option linter.unusedSimpArgs false
namespace Go.T
open Go Go.Ab
theorem Zcl {l:List Zaa} (hs:SrtId l) {id:Int} {s:Zaa} (h:look l id=some s) {i:Nat} (hi:i<l.length) (e:(l[i]).Id=id):l[i]=s:=by
  have:=Zjf hs i hi
  rw [e,h] at this
  exact (Option.some.inj this).symm
theorem ZgW {l : List Zaa} (hl : l.length ≤ 1000) (hs : SrtId l) {id : Int} {s : Zaa} (h : look l id = some s) (hst : s.State ≠ 4) :
    ∃ (i:Nat) (hi:i<l.length),l[i]=s∧s.Id=id∧Zao FM id l=some (.inr i):=by
  rcases ZhL l id hl hs with ⟨i,hi,h1,h2,h3,h4⟩ | ⟨h1,_⟩
  · have e:=Zcl hs h hi h1
    exact ⟨i,hi,e,by rw [← e];exact h1,h4⟩
  · exact absurd (h1 s h) hst
theorem Zo4 {l:List Zaa} (hl:l.length≤1000) (hs:SrtId l) {id:Int} (h:∀ s,look l id=some s→s.State=4):Zao FM id l=some (.inl ()):=by
  rcases ZhL l id hl hs with ⟨i,hi,h1,h2,h3,h4⟩ | ⟨_,h2⟩
  · exact absurd (h _ h3) h2
  · exact h2
theorem ZgF (o : Zae) {l : List Zaa} (hl : l.length ≤ 1000) (hs : SrtId l) (hb : ∀ s, s ∈ l → SB s) {s : Zaa} (h : look l o.Shard = some s) (hst : s.State = 1 ∨ s.State = 2) (he : s.Epoch = o.Epoch) :
    ZaY FM o l=some (errR 0,ZbK s 2,put l (ZbK s 2)):=by
  rcases ZgE o l hl hs hb with ⟨i,hi,h1,h2,h3,h4⟩ | ⟨i,hi,h1,h2,h3,h4⟩ | ⟨h1,h4⟩
  · have e:=Zcl hs h hi h1
    rw [h4,if_neg (by rw [e];omega),Zfv hs i hi (ZbK (l[i]) 2) rfl,e]
  · have e:=Zcl hs h hi h1
    exact absurd (by rw [e];exact he) h3
  · have:=h1 s (ZbM h).1 (ZbM h).2;omega
theorem ZnU (o : Zae) {l : List Zaa} (hl : l.length ≤ 1000) (hs : SrtId l) (hb : ∀ s, s ∈ l → SB s) (h : ∀ s, look l o.Shard = some s → s.State = 4 ∨ s.Epoch ≠ o.Epoch) :
    ∃ e,ZaY FM o l=some (errR e,noS,l):=by
  rcases ZgE o l hl hs hb with ⟨i,hi,h1,h2,h3,h4⟩ | ⟨i,hi,h1,h2,h3,h4⟩ | ⟨h1,h4⟩
  · have:=h _ (by rw [← h1];exact Zjf hs i hi)
    omega
  · exact ⟨_,h4⟩
  · exact ⟨_,h4⟩
theorem Znp (o : Zae) {l : List Zaa} (hl : l.length ≤ 1000) (hs : SrtId l) {s : Zaa} (h : look l o.Shard = some s) (hst : s.State = 1 ∨ s.State = 3) (he : s.Epoch = o.Epoch) :
    Zbc FM o l=some (errR 0,noS,put l (ZbK s 1)):=by
  rcases ZjZ o l hl hs with ⟨i,hi,h1,h2,h3,h4⟩ | ⟨i,hi,h1,h2,h3,h4⟩ | ⟨h1,h4⟩
  · have e:=Zcl hs h hi h1
    rw [h4,if_neg (by rw [e];omega),Zfv hs i hi (ZbK (l[i]) 1) rfl,e]
  · have e:=Zcl hs h hi h1
    exact absurd (by rw [e];exact he) h3
  · have:=h1 s (ZbM h).1 (ZbM h).2;omega
theorem ZjQ (o : Zae) {l : List Zaa} (hl : l.length ≤ 1000) (hs : SrtId l) (ho : 1 ≤ o.Shard) (h1' : 1 ≤ o.Epoch) (h2' : o.Epoch ≤ 1099511627776) {s : Zaa} (h : look l o.Shard = some s) (hst : s.State = 2 ∨ s.State = 3) (he : s.Epoch = o.Epoch) :
    ZaM FM o l=some (errR 0,noS,put l (gone s)):=by
  rcases Zfx o l hl hs ho h1' h2' with ⟨i,hi,h1,h4⟩ | ⟨i,hi,h2,h3,h4⟩
  · have e:=Zcl hs h hi h1
    rw [h4,if_neg (by rw [e];omega),if_neg (by rw [e];simpa using he),if_neg (by rw [e];omega),Zfv hs i hi (gone (l[i])) rfl,e]
  · obtain ⟨k,hk,_,e⟩:=ZfA h
    rcases Nat.lt_or_ge k i with q | q
    · have:=h2 k hk q;omega
    · have:=h3 k hk q;omega
theorem Zni (o : Zae) {l : List Zaa} (hl : l.length ≤ 1000) (hs : SrtId l) (ho : 1 ≤ o.Shard) (h1' : 1 ≤ o.Epoch) (h2' : o.Epoch ≤ 1099511627776) {s : Zaa} (h : look l o.Shard = some s) (hst : s.State = 4 ∧ o.Epoch ≤ s.Epoch ∨ s.State ≠ 4 ∧ s.Epoch ≠ o.Epoch) :
    ∃ e,ZaM FM o l=some (errR e,noS,l):=by
  rcases Zfx o l hl hs ho h1' h2' with ⟨i,hi,h1,h4⟩ | ⟨i,hi,h2,h3,h4⟩
  · have e:=Zcl hs h hi h1
    rcases hst with ⟨c1,c2⟩ | ⟨c1,c2⟩
    · refine ⟨0,?_⟩
      rw [h4,if_pos (by rw [e];exact c1),if_neg (by rw [e];omega)]
      have:(Zaa.mk (l[i]).Id (l[i]).Epoch (l[i]).State (l[i]).From (l[i]).To (l[i]).Jobs (l[i]).Seen)=l[i]:=rfl
      rw [this,Zi2]
    · refine ⟨171,?_⟩
      rw [h4,if_neg (by rw [e];exact c1),if_pos (by rw [e];exact c2)]
  · obtain ⟨k,hk,_,e⟩:=ZfA h
    rcases Nat.lt_or_ge k i with q | q
    · have:=h2 k hk q;omega
    · have:=h3 k hk q;omega
theorem Zmz (o : Zae) {l : List Zaa} (hl : l.length < 64) (hs : SrtId l) (hr : GoodS o.State) (hst : o.State.State ≠ 4) (hlv : liveN l < 16)
    (h:∀ s,look l o.State.Id=some s→s.State=4∧s.Epoch<o.State.Epoch):Za0 FM o l=some (errR 0,noS,put l (ZbK o.State 3)):=by
  rcases ZfZ o l (by omega) hs (ZhG _ hr.1 hr.2.2.1) hst hr.2 with ⟨i,hi,h1,h4⟩ | ⟨i,hi,h2,h3,h4⟩
  · have:=h _ (by rw [← h1];exact Zjf hs i hi)
    rw [h4,if_neg (by omega),if_neg (by omega),if_neg (by omega),if_neg (by omega),if_neg (by omega),Zfv hs i hi (ZbK o.State 3) (by rw [h1];rfl)]
  · rw [h4,if_neg (by omega),Zk9 l i (ZbK o.State 3) hi h2 h3]
theorem ZmA (o : Zae) {l : List Zaa} (hl : l.length ≤ 1000) (hs : SrtId l) (hr : GoodS o.State) (hst : o.State.State ≠ 4) {s : Zaa} (h : look l o.State.Id = some s) (he : o.State.Epoch ≤ s.Epoch) :
    ∃ e,Za0 FM o l=some (errR e,noS,l):=by
  rcases ZfZ o l hl hs (ZhG _ hr.1 hr.2.2.1) hst hr.2 with ⟨i,hi,h1,h4⟩ | ⟨i,hi,h2,h3,h4⟩
  · have e:=Zcl hs h hi h1
    rw [e] at h4
    by_cases c1:s.State=4
    · exact ⟨171,by rw [h4,if_pos ⟨c1,he⟩]⟩
    · by_cases c2:s.Epoch=o.State.Epoch
      · exact ⟨0,by rw [h4,if_neg (by omega),if_neg (by omega),if_pos c2]⟩
      · exact ⟨171,by rw [h4,if_neg (by omega),if_neg (by omega),if_neg c2,if_pos (by omega)]⟩
  · obtain ⟨k,hk,_,e⟩:=ZfA h
    rcases Nat.lt_or_ge k i with q | q
    · have:=h2 k hk q;omega
    · have:=h3 k hk q;omega
theorem ZoG (o : Zae) {l : List Zaa} (hl : l.length ≤ 1000) (hs : SrtId l) (h : ∀ s, look l o.Shard = some s → s.State = 4 ∨ s.Epoch ≠ o.Epoch) :
    ∃ e,ZaX FM o l=some (errR e,noS,l):=by
  rcases ZhL l o.Shard hl hs with ⟨i,hi,h1,h2,h3,h4⟩ | ⟨h1,h2⟩
  · rcases ZiZ o l hl hs i hi h4 with ⟨_,_,_,_,_,_,_,h5⟩ | ⟨_,h5⟩
    · exact ⟨0,h5⟩
    · have:=h _ h3
      rw [if_pos (by omega)] at h5
      exact ⟨171,h5⟩
  · exact ⟨172,Zmk o l hl hs h2⟩
theorem ZoS (o : Zae) {l : List Zaa} (hl : l.length ≤ 1000) (hs : SrtId l) (h : ∀ s, look l o.Shard = some s → s.State = 4 ∨ s.Epoch ≠ o.Epoch) :
    ∃ e,ZaK FM o l=some (errR e,noS,l):=by
  rcases ZhL l o.Shard hl hs with ⟨i,hi,h1,h2,h3,h4⟩ | ⟨h1,h2⟩
  · have:=h _ h3
    exact Zk6 o l hl hs i hi h4 (by omega)
  · exact ⟨172,Zmw o l hl hs h2⟩
theorem ZoF (o : Zae) {l : List Zaa} (hl : l.length < 64) (hs : SrtId l) {s : Zaa} (h : look l o.Shard = some s) (hst : s.State = 1) (he : s.Epoch = o.Epoch) (hp : s.Epoch < o.Past ∧ o.Past ≤ 1099511627776) (ho : 1 ≤ o.Other)
    (hk:look l o.Other=none) (hin:Zdu FM s o.Key=some true) (hne:o.Key≠s.From) (hlv:liveN l<16) (hb:SB s) :
    ZaX FM o l=some (errR 0,noS,put (put l (Zed s o)) (ZgK s o)):=by
  obtain ⟨i,hi,e,hid,hg⟩:=ZgW (by omega) hs h (by omega)
  subst e
  rw [Zia] at hk
  have hno:¬ (∃ (k:Nat) (hk:k<l.length),(l[k]).Id=o.Other∧(l[k]).State≠4∧(l[i]).Epoch=o.Past∧(l[k]).Epoch=o.Past∧(l[k]).From=o.Key):=by
    rintro ⟨k,hk',e,_⟩
    exact hk _ (List.getElem_mem hk') e
  rcases ZiZ o l (by omega) hs i hi hg with ⟨k,hk',h1,h2,h3,h4,h5,_⟩ | ⟨_,h5⟩
  · exact absurd ⟨k,hk',h1,h2,h3,h4,h5⟩ hno
  · rw [if_neg (by simpa using he)] at h5
    obtain ⟨k,k1,k2,k3,k4⟩:=Zm3 o l i hi hl hs hst hp ho hk hin hne hlv hb
    have hset:l.set i (Zed (l[i]) o)=put l (Zed (l[i]) o):=Zfv hs i hi (Zed (l[i]) o) rfl
    have hidj:∀ j (hj:j<l.length),((l.set i (Zed (l[i]) o))[j]'(by simpa using hj)).Id=(l[j]).Id:=by
      intro j hj
      rw [List.getElem_set]
      split
      · rename_i e;subst e;rfl
      · rfl
    rw [h5,k4,Zk9 _ k (ZgK (l[i]) o) (by simpa using k1) (fun j hj hjk=>by rw [hidj j (by simpa using hj)];exact k2 j (by simpa using hj) hjk) (fun j hj hjk=>by rw [hidj j (by simpa using hj)];exact k3 j (by simpa using hj) hjk),hset]
theorem ZoT (o : Zae) {l : List Zaa} (hl : l.length ≤ 1000) (hs : SrtId l) {s t : Zaa} (h : look l o.Shard = some s) (h' : look l o.Other = some t) (hoo : o.Shard ≠ o.Other) (hst : s.State = 1) (hst' : t.State = 1)
    (he:s.Epoch=o.Epoch) (he2:t.Epoch=o.State.Epoch) (hp:(if t.Epoch > s.Epoch then t.Epoch else s.Epoch)<o.Past∧o.Past≤1099511627776)
    (ht:s.To≠[]) (htf:s.To=t.From) (hj:s.Jobs.length+t.Jobs.length≤256) (hjo:ZdJ FM s.Seen t.Seen=some (s.Seen,0)) :
    ZaK FM o l=some (errR 0,noS,put (put l (Zc1 s t o)) (gone t)):=by
  obtain ⟨i,hi,e,hid,hg⟩:=ZgW (by omega) hs h (by omega)
  obtain ⟨k,hk,e',hid',hg'⟩:=ZgW (by omega) hs h' (by omega)
  subst e
  subst e'
  have hik:i≠k:=by
    rintro rfl
    exact hoo (hid.symm.trans hid')
  rw [ZoR o l hl hs i k hi hk hg hg' hik hid hid' he he2 hst hst' hp ht htf hj hjo]
  have h1:l.set i (Zc1 (l[i]) (l[k]) o)=put l (Zc1 (l[i]) (l[k]) o):=Zfv hs i hi (Zc1 (l[i]) (l[k]) o) rfl
  have h2:((l.set i (Zc1 (l[i]) (l[k]) o))[k]'(by simpa using hk))=l[k]:=List.getElem_set_ne hik _
  rw [Zfv (ZkL hs i hi (Zc1 (l[i]) (l[k]) o) rfl) k (by simpa using hk) (gone (l[k])) (by rw [h2];rfl),h1]
end Go.T
set_option linter.unusedVariables false
set_option linter.unusedSimpArgs false
namespace Go.T
open Go Go.Ab
abbrev Grs:=List (List Zaa)
def gr (G:Grs) (g:Nat):List Zaa:=G.getD g []
def lk (G:Grs) (g:Nat) (id:Int):Option Zaa:=look (gr G g) id
def putG (G:Grs) (g:Nat) (x:Zaa):Grs:=G.set g (put (gr G g) x)
theorem gr_at {G:Grs} {g:Nat} (h:g<G.length):gr G g=G[g]:=by
  unfold gr
  rw [List.getD_eq_getElem?_getD,List.getElem?_eq_getElem h];rfl
theorem ZnS {G:Grs} {g:Nat} (h:G.length≤g):gr G g=[]:=by
  unfold gr
  rw [List.getD_eq_getElem?_getD,List.getElem?_eq_none h];rfl
theorem ZlZ {G:Grs} {g:Nat} (h:g<G.length) (l:List Zaa) (g':Nat):gr (G.set g l) g'=if g'=g then l else gr G g':=by
  unfold gr
  rw [List.getD_eq_getElem?_getD,List.getD_eq_getElem?_getD,List.getElem?_set]
  by_cases c:g=g'
  · subst c
    rw [if_pos rfl,if_pos rfl,if_pos h];rfl
  · rw [if_neg c,if_neg (fun e=>c e.symm)]
theorem Za5 (G:Grs) (g:Nat) (x:Zaa):(putG G g x).length=G.length:=by unfold putG;simp
theorem ZnR {G:Grs} {g:Nat} (h:g<G.length) (x:Zaa) (g':Nat):gr (putG G g x) g'=if g'=g then put (gr G g) x else gr G g':=ZlZ h _ g'
theorem Zdp {G:Grs} {g:Nat} (h:g<G.length) (x:Zaa) (g':Nat) (id:Int):lk (putG G g x) g' id=if g'=g∧id=x.Id then some x else lk G g' id:=by
  unfold lk
  rw [ZnR h]
  by_cases c:g'=g
  · rw [if_pos c,ZoV]
    by_cases c2:id=x.Id
    · rw [if_pos c2,if_pos ⟨c,c2⟩]
    · rw [if_neg c2,if_neg (fun e=>c2 e.2),c]
  · rw [if_neg c,if_neg (fun e=>c e.1)]
theorem lk_in {G:Grs} {g:Nat} {id:Int} {s:Zaa} (h:lk G g id=some s):g<G.length:=by
  rcases Nat.lt_or_ge g G.length with q | q
  · exact q
  · unfold lk at h;rw [ZnS q] at h;cases h
theorem ZhV {G:Grs} {g:Nat} (h:g<G.length):G.set g (gr G g)=G:=by rw [gr_at h];simp
def Base (last:Int) (G:Grs):Prop:=(∀ g,SrtId (gr G g))∧∀ g id s,lk G g id=some s→GoodS s∧1≤id∧id≤last
theorem Zgh {last:Int} {G:Grs} (h:Base last G) {g:Nat} (hg:g<G.length) {x:Zaa} (hx:GoodS x) (h1:1≤x.Id) (h2:x.Id≤last):Base last (putG G g x):=by
  refine ⟨fun g'=>?_,fun g' id s hs=>?_⟩
  · rw [ZnR hg]
    split
    · exact ZpO (h.1 g) x
    · exact h.1 g'
  · rw [Zdp hg] at hs
    split at hs
    · rename_i c
      obtain ⟨_,rfl⟩:=c
      obtain rfl:=Option.some.inj hs
      exact ⟨hx,h1,h2⟩
    · exact h.2 g' id s hs
theorem Zog {a b:Int} {G:Grs} (h:Base a G) (hab:a≤b):Base b G:=⟨h.1,fun g id s hs=>by have:=h.2 g id s hs;exact ⟨this.1,this.2.1,by omega⟩⟩
theorem Zo2:∀ (l:List Zaa) (a:Nat) (n:Nat),SrtId l→(∀ s,s∈l→(a:Int)<s.Id∧s.Id≤n)→l.length+a≤n∨l=[]:=by
  intro l
  induction l with
  | nil=>intro a n _ _;exact .inr rfl
  | cons x l ih =>
    intro a n hs h
    left
    rw [Zeo] at hs
    have hx:=h x List.mem_cons_self
    rcases ih x.Id.toNat n hs.2 (fun s hm=>by have:=hs.1 s hm;have:=h s (List.mem_cons_of_mem _ hm);omega) with q | q
    · simp only [List.length_cons];omega
    · subst q;simp only [List.length_cons,List.length_nil];omega
theorem Zme {last:Nat} {G:Grs} (h:Base last G) (g:Nat):(gr G g).length≤last:=by
  rcases Zo2 (gr G g) 0 last (h.1 g) (fun s hs=>by
    have:=h.2 g s.Id s (ZhJ (h.1 g) hs)
    omega) with q | q
  · omega
  · rw [q];simp
theorem Zoh {last:Nat} {G:Grs} (h:Base last G) (hl:last≤64) (g:Nat) (hv:liveN (gr G g)≤16):GoodL (gr G g) :=
  ⟨h.1 g,by have:=Zme h g;omega,hv,fun s hs=>(h.2 g s.Id s (ZhJ (h.1 g) hs)).1⟩
def one (p:Zaa→Bool) (o:Option Zaa):Nat:=match o with | some s=>if p s then 1 else 0 | none=>0
theorem Zqq (p:Zaa→Bool) {l:List Zaa} (hs:SrtId l) (x:Zaa):(put l x).countP p+one p (look l x.Id)=l.countP p+one p (some x):=by
  induction l with
  | nil=>simp [put,Zje,one,List.countP_cons]
  | cons y l ih =>
    rw [Zeo] at hs
    rw [ZoL,ZdK]
    by_cases h1:x.Id<y.Id
    · have hn:look l x.Id=none:=Zia.2 fun s hm=>by have:=hs.1 s hm;omega
      rw [if_pos h1,if_neg (by omega),hn,List.countP_cons]
      simp [one]
    · rw [if_neg h1]
      by_cases h2:y.Id=x.Id
      · rw [if_pos h2,if_pos h2,List.countP_cons,List.countP_cons]
        simp only [one];omega
      · rw [if_neg h2,if_neg h2,List.countP_cons,List.countP_cons]
        have:=ih hs.2
        omega
theorem Zn8 (f:List Zaa→Nat):∀ (G:Grs) (g:Nat) (h:g<G.length) (l:List Zaa),((G.set g l).map f).sum+f G[g]=(G.map f).sum+f l:=by
  intro G
  induction G with
  | nil=>intro g h;simp at h
  | cons y G ih =>
    intro g h l
    cases g with
    | zero=>simp only [List.set_cons_zero,List.map_cons,List.sum_cons,List.getElem_cons_zero];omega
    | succ g =>
      simp only [List.set_cons_succ,List.map_cons,List.sum_cons,List.getElem_cons_succ]
      have:=ih g (by simpa using h) l
      omega
theorem Zn9 (f:List Zaa→Nat):∀ (G:Grs) (g:Nat) (h:g<G.length),f G[g]≤(G.map f).sum:=by
  intro G
  induction G with
  | nil=>intro g h;simp at h
  | cons y G ih =>
    intro g h
    cases g with
    | zero=>simp only [List.map_cons,List.sum_cons,List.getElem_cons_zero];omega
    | succ g =>
      simp only [List.map_cons,List.sum_cons,List.getElem_cons_succ]
      have:=ih g (by simpa using h)
      omega
theorem Zqr (f:List Zaa→Nat):∀ (G:Grs) (g g':Nat) (h:g<G.length) (h':g'<G.length),g≠g'→f G[g]+f G[g']≤(G.map f).sum:=by
  intro G
  induction G with
  | nil=>intro g g' h;simp at h
  | cons y G ih =>
    intro g g' h h' hne
    cases g with
    | zero =>
      cases g' with
      | zero=>exact absurd rfl hne
      | succ g' =>
        simp only [List.map_cons,List.sum_cons,List.getElem_cons_succ,List.getElem_cons_zero]
        have:=Zn9 f G g' (by simpa using h');omega
    | succ g =>
      cases g' with
      | zero =>
        simp only [List.map_cons,List.sum_cons,List.getElem_cons_succ,List.getElem_cons_zero]
        have:=Zn9 f G g (by simpa using h);omega
      | succ g' =>
        simp only [List.map_cons,List.sum_cons,List.getElem_cons_succ]
        have:=ih g g' (by simpa using h) (by simpa using h') (by omega)
        omega
def liveT (G:Grs):Nat:=(G.map liveN).sum
def lv (s:Zaa):Bool:=decide (s.State≠4)
theorem ZnB {l:List Zaa} (hs:SrtId l) (x:Zaa):liveN (put l x)+one lv (look l x.Id)=liveN l+one lv (some x):=Zqq lv hs x
theorem Zfl {last:Int} {G:Grs} (h:Base last G) {g:Nat} (hg:g<G.length) (x:Zaa):liveT (putG G g x)+one lv (lk G g x.Id)=liveT G+one lv (some x):=by
  have h1:=Zn8 liveN G g hg (put (gr G g) x)
  have h2:=ZnB (h.1 g) x
  unfold liveT putG lk
  rw [gr_at hg] at h1 h2 ⊢
  omega
theorem Zjg (G:Grs) (g:Nat):liveN (gr G g)≤liveT G:=by
  rcases Nat.lt_or_ge g G.length with q | q
  · rw [gr_at q];exact Zn9 liveN G g q
  · rw [ZnS q];exact Nat.zero_le _
theorem ZgT {G:Grs} {g g':Nat} (h:g<G.length) (h':g'<G.length) (hne:g≠g'):liveN (gr G g)+liveN (gr G g')≤liveT G:=by
  rw [gr_at h,gr_at h'];exact Zqr liveN G g g' h h' hne
theorem ZgS {l:List Zaa} {id:Int} {s:Zaa} (h:look l id=some s) (hs:s.State≠4):1≤liveN l:=by
  unfold liveN
  have:=List.countP_pos_iff (l:=l) (p:=fun s=>decide (s.State≠4))
  exact this.2 ⟨s,(ZbM h).1,by simpa using hs⟩
end Go.T
