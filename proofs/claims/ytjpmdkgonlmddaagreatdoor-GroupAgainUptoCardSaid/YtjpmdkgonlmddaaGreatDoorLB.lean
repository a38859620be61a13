import Derived.Test.YtjpmdkgonlmddaaGreatDoorLA
set_option linter.unusedVariables false
set_option linter.unusedSimpArgs false
namespace Go.T
open Go Go.Ab
abbrev Fs:=List (List UInt8×List Int)
def tot(fs:Fs):Nat:=(fs.map fun e=>e.2.length).sum
theorem ZeB{q:List UInt8}{x:List Int}:∀{fs:Fs},mget q fs=some x→(q,x)∈fs
 | [],h=>by cases h
 |e::r,h=>by
  unfold mget at h;split at h
  ·rename_i hq
   injection h with h
   subst hq h;exact List.mem_cons_self ..
  ·exact List.mem_cons_of_mem _ (ZeB h)
theorem Zfj{q:List UInt8}:∀{fs:Fs},mget q fs=none↔∀e,e∈fs→e.1≠q
 | []=>by simp[mget]
 |e::r=>by
  unfold mget;split
  ·rename_i hq
   simp only[reduceCtorEq,false_iff]
   exact fun h=>h e (List.mem_cons_self ..) hq.symm
  ·rename_i hq
   rw[Zfj (fs:=r)]
   constructor
   ·intro h e' he
    rcases List.mem_cons.1 he with rfl|he
    ·exact fun q=>hq q.symm
    ·exact h e' he
   ·exact fun h e' he=>h e' (List.mem_cons_of_mem _ he)
theorem Zss{fs:Fs}(h:(fs.map Prod.fst).Nodup){e:List UInt8×List Int}(he:e∈fs):mget e.1 fs=some e.2:=by
 induction fs with
 |nil=>cases he
 |cons d r ih=>
  simp only[List.map_cons,List.nodup_cons]at h;unfold mget
  rcases List.mem_cons.1 he with rfl|he
  ·rw[if_pos rfl]
  ·rw[if_neg,ih h.2 he]
   intro q;exact h.1 (q▸List.mem_map_of_mem he)
theorem Zg2{q:List UInt8}(x:List Int):∀{fs:Fs},mget q fs=none→mput q x fs=fs++[(q,x)]
 | [],_=>rfl
 |e::r,h=>by
  unfold mget at h;split at h
  ·cases h
  ·rename_i hq
   unfold mput;rw[if_neg hq,Zg2 x h];rfl
theorem Zj4{q:List UInt8}(x y:List Int):∀{fs:Fs},mget q fs=some y→(mput q x fs).map Prod.fst=fs.map Prod.fst∧tot (mput q x fs)+y.length=tot fs+x.length∧(mput q x fs).length=fs.length
 | [],h=>by cases h
 |e::r,h=>by
  unfold mget at h;unfold mput;split at h
  ·rename_i hq
   injection h with h
   rw[if_pos hq];subst hq h;simp[tot];omega
  ·rename_i hq
   rw[if_neg hq]
   obtain⟨h1,h2,h3⟩:=Zj4 x y h
   simp only[List.map_cons,h1,tot,List.sum_cons,List.length_cons,h3,true_and,and_true];unfold tot at h2;omega
theorem Zh5{q:List UInt8}{x:List Int}{e:List UInt8×List Int}:∀{fs:Fs},e∈mput q x fs→e=(q,x)∨e∈fs
 | [],h=>by simpa[mput]using h
 |d::r,h=>by
  unfold mput at h;split at h
  ·rcases List.mem_cons.1 h with rfl|h
   ·exact .inl rfl
   ·exact .inr (List.mem_cons_of_mem _ h)
  ·rcases List.mem_cons.1 h with rfl|h
   ·exact .inr (List.mem_cons_self ..)
   ·exact(Zh5 h).imp id (List.mem_cons_of_mem _)
theorem Zj6{q:List UInt8}(x:List Int):∀(fs:Fs),mget q (mput q x fs)=some x
 | []=>by simp[mput,mget]
 |d::r=>by
  unfold mput;split
  ·simp[mget]
  ·rename_i hq
   unfold mget;rw[if_neg hq,Zj6 x r]
theorem ZiL{q:List UInt8}:∀{fs gs:Fs},mget q fs=none→mget q (fs++gs)=mget q gs
 | [],gs,_=>rfl
 |d::r,gs,h=>by
  unfold mget at h;split at h
  ·cases h
  ·rename_i hq
   rw[List.cons_append,mget,if_neg hq,ZiL h]
theorem Zmj{q:List UInt8}{x:List Int}:∀{fs gs:Fs},mget q fs=some x→mget q (fs++gs)=some x
 | [],gs,h=>by cases h
 |d::r,gs,h=>by
  unfold mget at h;rw[List.cons_append,mget];split at h
  ·rename_i hq
   rw[if_pos hq,h]
  ·rename_i hq
   rw[if_neg hq,Zmj h]
theorem ZlA{q:List UInt8}(x y:List Int):∀{fs:Fs},mget q fs=none→mput q x (fs++[(q,y)])=fs++[(q,x)]
 | [],_=>by simp[mput]
 |d::r,h=>by
  unfold mget at h;split at h
  ·cases h
  ·rename_i hq
   rw[List.cons_append,mput,if_neg hq,ZlA x y h];rfl
theorem Zh6{q:List UInt8}:∀(fs:Fs),(mdel q fs).Sublist fs
 | []=>.slnil
 |d::r=>by
  unfold mdel;split
  ·exact List.sublist_cons_self ..
  ·exact(Zh6 r).cons_cons _
theorem ZnO{q:List UInt8}{x:List Int}:∀{fs:Fs},mget q fs=some x→tot (mdel q fs)+x.length=tot fs
 | [],h=>by cases h
 |d::r,h=>by
  unfold mget at h;unfold mdel;split at h
  ·rename_i hq
   injection h with h
   rw[if_pos hq];subst h;simp[tot];omega
  ·rename_i hq
   rw[if_neg hq]
   have:=ZnO h
   simp only[tot,List.map_cons,List.sum_cons]at this⊢;omega
theorem ZiM{q:List UInt8}:∀{fs:Fs},(fs.map Prod.fst).Nodup→mget q (mdel q fs)=none
 | [],_=>rfl
 |d::r,h=>by
  simp only[List.map_cons,List.nodup_cons]at h;unfold mdel;split
  ·rename_i hq
   rw[Zfj];intro e he hc
   exact h.1 (by rw[←hq,←hc];exact List.mem_map_of_mem he)
  ·rename_i hq
   unfold mget;rw[if_neg hq,ZiM h.2]
theorem Zje{p q:List UInt8}(hpq:p≠q):∀(fs:Fs),mget p (mdel q fs)=mget p fs
 | []=>rfl
 |d::r=>by
  unfold mdel;split
  ·rename_i hq
   rw[mget,if_neg (by rw[←hq];exact hpq)]
  ·rw[mget,mget,Zje hpq r]
theorem ZjL{q:List UInt8}{x:List Int}:∀{fs gs:Fs},mget q fs=some x→mdel q (fs++gs)=mdel q fs++gs
 | [],gs,h=>by cases h
 |d::r,gs,h=>by
  unfold mget at h;rw[List.cons_append,mdel,mdel];split at h
  ·rename_i hq
   rw[if_pos hq,if_pos hq]
  ·rename_i hq
   rw[if_neg hq,if_neg hq,ZjL h];rfl
structure DI(c:Int)(fs:Fs):Prop where
 nk:(fs.map Prod.fst).Nodup
 tot:c=(tot fs:Int)
 le:Go.T.tot fs≤1048576
 n64:fs.length≤64
 names:∀e,e∈fs→e.1.length≤16
 byt:∀e,e∈fs→Byt e.2
theorem ZhC{fs:Fs}{e:List UInt8×List Int}(h:e∈fs):e.2.length≤tot fs:=by
 induction fs with
 |nil=>cases h
 |cons d r ih=>
  simp only[tot,List.map_cons,List.sum_cons]at ih⊢
  rcases List.mem_cons.1 h with rfl|h
  ·omega
  ·have:=ih h;omega
theorem Zlj(a b:Fs):tot (a++b)=tot a+tot b:=by simp[tot]
theorem DI.put{c:Int}{fs:Fs}(h:DI c fs)(q:List UInt8)(b:List Int)(hq:q.length≤16)(hb:Byt b)(hle:Go.T.tot fs+b.length≤1048576)(h64:mget q fs=none→fs.length<64):
 DI (c+(b.length:Int)) (mput q ((mget q fs).getD []++b) fs):=by
 cases hg:mget q fs with
 |none=>
  simp only[Option.getD_none,List.nil_append];rw[Zg2 b hg]
  have hn:=Zfj.1 hg
  refine⟨?_,?_,?_,?_,?_,?_⟩
  ·rw[List.map_append,List.map_singleton,List.nodup_append]
   refine⟨h.nk,by simp,?_⟩
   intro a ha b' hb' hab;simp only[List.mem_singleton]at hb'
   obtain⟨e,he,rfl⟩:=List.mem_map.1 ha
   exact hn e he (hab.trans hb')
  ·rw[Zlj,h.tot];simp[Go.T.tot]
  ·rw[Zlj];simpa[Go.T.tot]using hle
  ·have:=h64 hg;simp;omega
  ·intro e he
   rcases List.mem_append.1 he with he|he
   ·exact h.names e he
   ·simp only[List.mem_singleton]at he;subst he;exact hq
  ·intro e he
   rcases List.mem_append.1 he with he|he
   ·exact h.byt e he
   ·simp only[List.mem_singleton]at he;subst he;exact hb
 |some y=>
  simp only[Option.getD_some]
  obtain⟨h1,h2,h3⟩:=Zj4 (y++b) y hg
  rw[List.length_append]at h2
  refine⟨by rw[h1];exact h.nk,?_,by omega,by rw[h3];exact h.n64,?_,?_⟩
  ·rw[h.tot];omega
  ·intro e he
   rcases Zh5 he with rfl|he
   ·exact hq
   ·exact h.names e he
  ·intro e he
   rcases Zh5 he with rfl|he
   ·exact Byt.append (h.byt _ (ZeB hg)) hb
   ·exact h.byt e he
theorem DI.del{c:Int}{fs:Fs}(h:DI c fs)(q:List UInt8)(x:List Int)(hg:mget q fs=some x):DI (c-(x.length:Int)) (mdel q fs):=by
 have hs:=Zh6 (q:=q) fs
 have ht:=ZnO hg
 refine⟨h.nk.sublist (hs.map _),?_,?_,?_,fun e he=>h.names e (hs.subset he),fun e he=>h.byt e (hs.subset he)⟩
 ·rw[h.tot];omega
 ·have:=h.le;omega
 ·have:=hs.length_le;have:=h.n64;omega
def fgt(q:List UInt8)(l:List Zaa):List Zaa:=l.filter fun w=>!(w.name==q)
theorem ge0(n:Nat):decide ((0:Int)≤(n:Int))=true:=by simp
theorem wadd(i:Nat)(h:i<9000000000000000000):IntKind.wrap IntKind.i64 ((i:Int)+1)=((i+1:Nat):Int):=by rw[IntKind.wrap_i64];omega
theorem Zrk(s:List Zaa)(q:List UInt8)(hs:s.length≤2000000):∀(d i m:Nat),i+d=s.length→d<m→
 (Zak FF s q m (i:Int)=some (.inr ())∧∀w,w∈s.drop i→(w.name==q)=false)∨
 ∃k:Nat,Zak FF s q m (i:Int)=some (.inl (k:Int))∧i≤k∧k<s.length∧fgt q (s.drop i)=(s.drop i).take (k-i)++fgt q (s.drop (k+1)):=by
 intro d
 induction d with
 |zero=>
  intro i m h hm
  obtain⟨m,rfl⟩:∃k,m=k+1:=⟨m-1,by omega⟩
  refine .inl ⟨?_,?_⟩
  ·unfold Zak
   rw[decide_eq_false (by omega),cond_false]
  ·intro w hw
   rw[List.drop_of_length_le (by omega)]at hw
   cases hw
 |succ d ih=>
  intro i m h hm
  obtain⟨m,rfl⟩:∃k,m=k+1:=⟨m-1,by omega⟩
  have hi:i<s.length:=by omega
  have hdr:=List.drop_eq_getElem_cons hi
  have hstep:Zak FF s q (m+1) (i:Int)=bif ((s[i]).name==q)then some (.inl (i:Int))else Zak FF s q m ((i+1:Nat):Int):=by
   conv=>lhs;unfold Zak
   rw[decide_eq_true (by omega),cond_true,ge0,cond_true,cI,List.getElem?_eq_getElem hi,Option.bind_some]
   unfold Zdc
   rw[Option.bind_some,wadd i (by omega)]
  rw[hstep]
  cases hc:((s[i]).name==q)with
  |true=>
   refine .inr ⟨i,rfl,Nat.le_refl _,hi,?_⟩
   rw[hdr,Nat.sub_self,List.take_zero,List.nil_append];unfold fgt;rw[List.filter_cons,hc];rfl
  |false=>
   rcases ih (i+1) m (by omega) (by omega)with ⟨h1,h2⟩|⟨k,h1,h2,h3,h4⟩
   ·refine .inl ⟨h1,fun w hw=>?_⟩
    rw[hdr]at hw
    rcases List.mem_cons.1 hw with rfl|hw
    ·exact hc
    ·exact h2 w hw
   ·refine .inr ⟨k,h1,by omega,h3,?_⟩
    rw[hdr,show k-i=(k-(i+1))+1 by omega,List.take_succ_cons,List.cons_append,←h4]
    unfold fgt;rw[List.filter_cons,hc];rfl
theorem Zrt{q:List UInt8}{l:List Zaa}(h:∀w,w∈l→(w.name==q)=false):fgt q l=l:=by
 unfold fgt;rw[List.filter_eq_self];intro w hw;rw[h w hw];rfl
theorem Zqk(q:List UInt8):∀(d i j m:Nat) (L:List Zaa),L.length≤2000000→j+d=L.length→i≤j→(i=j→d=0)→d<m→
 ∃(i':Nat) (L':List Zaa),Zam FF q m (i:Int) (j:Int) L=some ((i':Int),L')∧L'.length=L.length∧i'≤L'.length∧L'.take i'=L.take i++fgt q (L.drop j):=by
 intro d
 induction d with
 |zero=>
  intro i j m L hL h hij _ hm
  obtain⟨m,rfl⟩:∃k,m=k+1:=⟨m-1,by omega⟩
  refine⟨i,L,?_,rfl,by omega,?_⟩
  ·unfold Zam
   rw[decide_eq_false (by omega),cond_false]
  ·rw[List.drop_of_length_le (by omega)];simp[fgt]
 |succ d ih=>
  intro i j m L hL h hij hne hm
  obtain⟨m,rfl⟩:∃k,m=k+1:=⟨m-1,by omega⟩
  have hj:j<L.length:=by omega
  have hi:i<L.length:=by omega
  have hlt:i<j:=by
   rcases Nat.lt_or_ge i j with h'|h'
   ·exact h'
   ·have:=hne (by omega);omega
  have hdr:=List.drop_eq_getElem_cons hj
  cases hc:((L[j]).name==q)with
  |false=>
   obtain⟨i',L',h1,h2,h3,h4⟩:=ih (i+1) (j+1) m (L.set i L[j]) (by simpa using hL) (by simp;omega) (by omega) (by omega) (by omega)
   refine⟨i',L',?_,by simpa using h2,h3,?_⟩
   ·rw[←h1]
    conv=>lhs;unfold Zam
    rw[decide_eq_true (by omega),cond_true,ge0,cond_true,cI,List.getElem?_eq_getElem hj,Option.bind_some,Option.bind_some]
    unfold ZbV
    rw[Option.bind_some,hc,Bool.not_false,cond_true,ge0,cond_true,cI,List.getElem?_eq_getElem hi,Option.bind_some,Option.bind_some,Option.bind_some]
    simp only
    rw[wadd i (by omega),wadd j (by omega)]
   ·have e:(L.set i L[j]).drop (j+1)=L.drop (j+1):=List.drop_set_of_lt (by omega)
    rw[h4,e,hdr]
    have e2:(L.set i L[j]).take (i+1)=L.take i++[L[j]]:=by
     rw[List.take_set,List.take_add_one,List.getElem?_eq_getElem hi,List.set_append_right _ _ (by simp;omega)]
     simp[Nat.min_eq_left (Nat.le_of_lt hi)]
    rw[e2,List.append_assoc];congr 1;unfold fgt;rw[List.filter_cons,hc];rfl
  |true=>
   obtain⟨i',L',h1,h2,h3,h4⟩:=ih i (j+1) m L hL (by omega) (by omega) (by omega) (by omega)
   refine⟨i',L',?_,h2,h3,?_⟩
   ·rw[←h1]
    conv=>lhs;unfold Zam
    rw[decide_eq_true (by omega),cond_true,ge0,cond_true,cI,List.getElem?_eq_getElem hj,Option.bind_some,Option.bind_some]
    unfold ZbV;rw[Option.bind_some,hc,Bool.not_true,cond_false,Option.bind_some];simp only
    rw[wadd j (by omega)]
   ·rw[h4,hdr]
    congr 1;unfold fgt;rw[List.filter_cons,hc];rfl
theorem Zql(l:List Zaa)(q:List UInt8)(hl:l.length≤2000000):Zaw FF l q=some (fgt q l):=by
 unfold Zaw ZaQ
 rcases Zrk l q hl l.length 0 FF (by omega) (by show _<4000000;omega)with ⟨h1,h2⟩|⟨k,h1,h2,h3,h4⟩
 ·rw[show Zak FF l q FF 0=some (.inr ())from h1]
  simp only[Option.bind_some,Sum.elim_inr,beq_self_eq_true,cond_true]
  rw[Zrt (by simpa using h2)]
 ·rw[show Zak FF l q FF 0=some (.inl (k:Int))from h1]
  simp only[Option.bind_some,Sum.elim_inl]
  rw[show(((k:Int)== -1)=false)from by simp,cond_false,wadd k (by omega)]
  obtain⟨i',L',g1,g2,g3,g4⟩:=Zqk q (l.length-(k+1)) k (k+1) FF l hl (by omega) (by omega) (by omega) (by show _<4000000;omega)
  rw[g1,Option.bind_some];simp only[ge0,cond_true,cI,decide_eq_true g3,decide_eq_true (Nat.le_refl L'.length),List.length_map]
  rw[decide_eq_true (by omega),cond_true,decide_eq_true (by omega),cond_true]
  congr 1
  rw[List.take_append_of_le_length (by rw[List.length_take];omega),List.take_take,Nat.min_self,g4]
  simpa using h4.symm
theorem Zmx(q:List UInt8)(c:Int)(fs:Fs)(l:List Zaa)(hl:l.length≤2000000):ZbR FF q c fs l=some (c,fgt q l):=by
 unfold ZbR;rw[Zql l q hl];rfl
theorem Zlk(q:List UInt8)(c:Int)(fs:Fs)(l:List Zaa):Zb3 FF q c fs l=some (if(mget q fs).isSome then 0 else 80):=by
 unfold Zb3
 cases (mget q fs)<;>rfl
theorem ZlX{q:List UInt8}{x:List Int}{c:Int}{fs:Fs}{l:List Zaa}(h:mget q fs=some x)(hl:l.length≤2000000):ZcL FF q c fs l=some (0,c,fgt q l):=by
 unfold ZcL;rw[Zlk,h];simp only[Option.isSome_some,if_true,Option.bind_some,beq_self_eq_true,cond_true,Zmx q c fs l hl]
theorem ZjU{q:List UInt8}{x:List Int}{c:Int}{fs:Fs}{l:List Zaa}(h:mget q fs=some x)(hl:l.length≤2000000)(hc: -9000000000000000000≤c-(x.length:Int)∧c-(x.length:Int)≤9000000000000000000):ZbS FF q c fs l=some (0,c-(x.length:Int),mdel q fs,fgt q l):=by
 unfold ZbS;rw[Zlk,h];simp only[Option.isSome_some,if_true,Option.bind_some,beq_self_eq_true,cond_true,Zmx q _ _ l hl,Option.getD_some,List.length_map]
 rw[show IntKind.wrap IntKind.i64 (c-(x.length:Int))=c-(x.length:Int) by rw[IntKind.wrap_i64];omega]
theorem Zry(x:List Int)(h:x.length≤LIM):Zbm FF x=some x:=by
 unfold Zbm;rw[decide_eq_true h,cond_true]
theorem ZoB{q:List UInt8}{x:List Int}{c:Int}{fs:Fs}{l:List Zaa}(h:mget q fs=some x)(hx:x.length≤LIM):Zck FF q c fs l=some (.inl (0,x)):=by
 unfold Zck;rw[Zlk,h]
 simp only[Option.isSome_some,if_true,Option.bind_some,show((0:Int) != 0)=false from rfl,cond_false,cond_true,Option.getD_some,Zry x hx]
theorem Zra(q:List UInt8)(hq:q.length≤2000000):∀(d i m:Nat),i+d=q.length→d<m→Zcn FF q m (i:Int)=some (.inl false)∨Zcn FF q m (i:Int)=some (.inr ()):=by
 intro d
 induction d with
 |zero=>
  intro i m h hm
  obtain⟨m,rfl⟩:∃k,m=k+1:=⟨m-1,by omega⟩
  right;unfold Zcn
  rw[decide_eq_false (by omega),cond_false]
 |succ d ih=>
  intro i m h hm
  obtain⟨m,rfl⟩:∃k,m=k+1:=⟨m-1,by omega⟩
  have hi:=ih (i+1) m (by omega) (by omega)
  unfold Zcn
  rw[decide_eq_true (by omega),cond_true,ge0,cond_true,cI,List.getElem?_eq_getElem (by rw[List.length_map];omega),Option.bind_some,Option.bind_some,wadd i (by omega)]
  generalize (List.map (fun(b:UInt8)=>(((UInt8.toNat b):Nat):Int)) q)[i]'(by rw[List.length_map];omega)=y
  generalize decide (y<(97:Int))=b1;generalize decide (y<(48:Int))=b2;generalize (y != (45:Int))=b3;generalize (y != (46:Int))=b4;generalize decide ((57:Int)<y)=b5;generalize decide ((122:Int)<y)=b6
  cases b1<;>cases b2<;>cases b3<;>cases b4<;>cases b5<;>cases b6<;>simp only[cond_true,cond_false,Option.bind_some]<;>first|exact hi|exact .inl trivial|exact .inl rfl
theorem ZpJ(q:List UInt8)(hq:q.length≤2000000):∃ok,Zeb FF q=some ok∧(ok=true→q.length≤16):=by
 unfold Zeb
 rw[decide_eq_true (by simp only[LIM];omega),cond_true]
 rcases Zra q hq q.length 0 FF (by omega) (by show _<4000000;omega)with h|h
 ·rw[show Zcn FF q FF 0=_ from h]
  exact⟨false,rfl,fun q=>by cases q⟩
 ·rw[show Zcn FF q FF 0=_ from h]
  simp only[Option.bind_some,Sum.elim_inr]
  by_cases h1:(1:Int)≤(q.length:Int)
  ·rw[decide_eq_true h1,cond_true]
   refine⟨_,rfl,fun h=>?_⟩
   have:=of_decide_eq_true h
   omega
  ·rw[decide_eq_false h1,cond_false]
   exact⟨_,rfl,fun q=>by cases q⟩
theorem Zix(q:List UInt8)(b:List Int)(c:Int)(fs:Fs)(l:List Zaa)(hq:q.length≤2000000)(hb:b.length≤2000000)(h:DI c fs)(hl:l.length≤2000000):
 (∃e,(e=1∨e=3)∧Zbu FF q b c fs l=some (e,c,fs,l)∧(Zeb FF q≠some true∨1048576<tot fs+b.length∨(mget q fs=none∧64≤fs.length)))∨
 (Zbu FF q b c fs l=some (0,c+(b.length:Int),mput q ((mget q fs).getD []++b) fs,l++[Zaa.mk q (b.length:Int)])∧q.length≤16∧tot fs+b.length≤1048576∧(mget q fs=none→fs.length<64)):=by
 obtain⟨ok,h1,h2⟩:=ZpJ q hq
 have hc:=h.tot
 have hle:=h.le
 have h64:=h.n64
 have hw:IntKind.wrap IntKind.i64 (c+(b.length:Int))=c+(b.length:Int):=by rw[IntKind.wrap_i64];omega
 have hlf:decide (fs.length+1≤LIM)=true:=decide_eq_true (by simp only[LIM];omega)
 have hll:decide (l.length+1≤LIM)=true:=decide_eq_true (by simp only[LIM];omega)
 unfold Zbu;rw[h1,Option.bind_some]
 cases ok with
 |false=>exact .inl ⟨1,.inl rfl,by rw[Bool.not_false,cond_true],.inl (fun q=>by injection q with q;cases q)⟩
 |true=>
  rw[Bool.not_true,cond_false]
  cases hg:mget q fs with
  |some x=>
   have hx:=ZhC (ZeB hg)
   simp only at hx;simp only[Option.isSome_some,cond_true,Option.getD_some,List.length_map,hw]
   by_cases hf:(1048576:Int)<c+(b.length:Int)
   ·rw[decide_eq_true hf,cond_true]
    exact .inl ⟨3,.inr rfl,rfl,.inr (.inl (by omega))⟩
   ·rw[decide_eq_false hf,cond_false,decide_eq_true (by simp only[LIM];omega),cond_true,hlf,cond_true,hll,cond_true]
    exact .inr ⟨rfl,h2 rfl,by omega,fun q=>by cases q⟩
  |none=>
   simp only[Option.isSome_none,cond_false,Option.getD_none,List.nil_append,List.length_map,hw,encF]
   by_cases hf:(64:Int)≤(fs.length:Int)
   ·rw[decide_eq_true hf,cond_true,Option.bind_some,cond_true]
    exact .inl ⟨3,.inr rfl,rfl,.inr (.inr ⟨trivial,by omega⟩)⟩
   ·rw[decide_eq_false hf,cond_false,Option.bind_some]
    by_cases hf2:(1048576:Int)<c+(b.length:Int)
    ·rw[decide_eq_true hf2,cond_true]
     exact .inl ⟨3,.inr rfl,rfl,.inr (.inl (by omega))⟩
    ·rw[decide_eq_false hf2,cond_false,decide_eq_true (by simp only[LIM];omega),cond_true,hlf,cond_true,hll,cond_true]
     exact .inr ⟨rfl,h2 rfl,by omega,fun q=>by omega⟩
theorem Zmw(r:List Int)(h:r.length≤65536):Ze3 FF r=some (Za2 r,0):=by
 unfold Ze3;rw[Zrm r h];rfl
theorem Zk2(r:List Int)(h:65536<r.length):Ze3 FF r=some ([],1):=by
 unfold Ze3 Zf7
 rw[decide_eq_true (by omega),cond_true];rfl
theorem ZlV(r:List Int)(q:List UInt8)(n k:Int)(c:Int)(fs:Fs)(l:List Zaa)(hq:q.length≤2000000)(h:DI c fs)(hl:l.length≤2000000)(hk:0≤k∧k≤2000000):
 (∃e,e≠0∧Zcd FF r q n k c fs l=some (e,q,n,k,c,fs,l)∧(65536<r.length∨Zeb FF q≠some true∨1048576<tot fs+(Za2 r).length∨(mget q fs=none∧64≤fs.length)))∨
 (Zcd FF r q n k c fs l=some (0,q,n,k+1,c+((Za2 r).length:Int),mput q ((mget q fs).getD []++Za2 r) fs,l++[Zaa.mk q ((Za2 r).length:Int)])∧r.length≤65536∧q.length≤16∧tot fs+(Za2 r).length≤1048576∧(mget q fs=none→fs.length<64)):=by
 unfold Zcd
 by_cases hr:r.length≤65536
 ·rw[Zmw r hr,Option.bind_some]
  simp only[show((0:Int) != 0)=false from rfl,cond_false]
  have hp:=ZeU 9 r.length
  have hp2:(putL r.length).length≤10:=hp.2
  have hf:=ZeT r
  rcases Zix q (Za2 r) c fs l hq (by omega) h hl with ⟨e,he,h1,hwhy⟩|⟨h1,h2,h3,h4⟩
  ·rw[h1,Option.bind_some]
   refine .inl ⟨3,by decide,?_,.inr hwhy⟩
   simp only
   rw[show((e != 0)=true)from by rcases he with rfl|rfl<;>rfl,cond_true]
  ·rw[h1,Option.bind_some]
   refine .inr ⟨?_,hr,h2,h3,h4⟩
   simp only[show((0:Int) != 0)=false from rfl,cond_false]
   rw[show IntKind.wrap IntKind.i64 (k+1)=k+1 by rw[IntKind.wrap_i64];omega]
 ·rw[Zk2 r (by omega),Option.bind_some]
  exact .inl ⟨1,by decide,rfl,.inl (by omega)⟩
theorem Zp3(recs:List (List Int))(p:List Int)(hr:recs.length≤1048576):∀(d i m:Nat) (l:List (List Int)),i+d=1+recs.length→d<m→l.length=i→
 (Zcl FF recs (0,p) m (i:Int) l=some (.inr (l++((p::recs).drop i).map Za2))∧∀x,x∈(p::recs).drop i→x.length≤65536)∨
 (Zcl FF recs (0,p) m (i:Int) l=some (.inl (1,[]))∧∃x,x∈(p::recs).drop i∧65536<x.length):=by
 intro d
 induction d with
 |zero=>
  intro i m l h hm hl
  obtain⟨m,rfl⟩:∃k,m=k+1:=⟨m-1,by omega⟩
  have e:(p::recs).drop i=[]:=List.drop_of_length_le (by rw[List.length_cons];omega)
  left;rw[e]
  refine⟨?_,fun x hx=>by cases hx⟩
  unfold Zcl
  rw[decide_eq_false (by omega),cond_false]
  simp
 |succ d ih=>
  intro i m l h hm hl
  obtain⟨m,rfl⟩:∃k,m=k+1:=⟨m-1,by omega⟩
  have hi:i<(p::recs).length:=by rw[List.length_cons];omega
  have hdr:=List.drop_eq_getElem_cons hi
  unfold Zcl
  rw[decide_eq_true (by omega),cond_true,ge0,cond_true,cI]
  simp only[List.singleton_append]
  rw[List.getElem?_eq_getElem hi,Option.bind_some,Option.bind_some,wadd i (by omega),hdr]
  by_cases hx:((p::recs)[i]).length≤65536
  ·rw[Zmw _ hx,Option.bind_some]
   simp only[show((0:Int) != 0)=false from rfl,cond_false]
   rw[decide_eq_true (by simp only[LIM];omega),cond_true]
   rcases ih (i+1) m (l++[Za2 (p::recs)[i]]) (by omega) (by omega) (by simp[hl])with ⟨h1,h2⟩|⟨h1,x,h2,h3⟩
   ·refine .inl ⟨?_,fun x hx'=>?_⟩
    ·rw[h1];simp
    ·rcases List.mem_cons.1 hx' with rfl|hx'
     ·exact hx
     ·exact h2 x hx'
   ·exact .inr ⟨h1,x,List.mem_cons_of_mem _ h2,h3⟩
  ·rw[Zk2 _ (by omega),Option.bind_some]
   exact .inr ⟨rfl,_,List.mem_cons_self ..,by omega⟩
theorem Zm7(recs:List (List Int))(hr:recs.length≤1048576):
 (ZfZ FF recs=some (0,Za2 (putL recs.length)::recs.map Za2)∧∀x,x∈recs→x.length≤65536)∨
 (ZfZ FF recs=some (1,[])∧∃x,x∈recs∧65536<x.length):=by
 unfold ZfZ
 rw[List.length_map,ZoA recs.length (by omega),Option.bind_some,decide_eq_true (by simp only[LIM];omega),cond_true]
 have hp:=ZeU 9 recs.length
 have hp2:(putL recs.length).length≤10:=hp.2
 rcases Zp3 recs (putL recs.length) hr (1+recs.length) 0 FF [] (by omega) (by show _<4000000;omega) rfl with ⟨h1,h2⟩|⟨h1,x,h2,h3⟩
 ·left
  rw[show Zcl FF recs (0,putL recs.length) FF 0 []=_ from h1]
  refine⟨?_,fun x hx=>h2 x ?_⟩
  ·simp
  ·simp[hx]
 ·right
  rw[show Zcl FF recs (0,putL recs.length) FF 0 []=_ from h1]
  refine⟨by simp,x,?_,h3⟩
  rw[List.drop_zero]at h2
  rcases List.mem_cons.1 h2 with rfl|h2
  ·omega
  ·exact h2
def Tot{α:Type}(o:Option α)(P:α→Prop):Prop:=∃r,o=some r∧P r
section
variable {α β ρ σ:Type}{P:α→Prop}{Q:β→Prop}
theorem Tot.ret{r:α}(h:P r):Tot (some r) P:=⟨r,rfl,h⟩
theorem Tot.bind{x:Option β}{f:β→Option α}(h:Tot x Q)(k:∀y,x=some y→Q y→Tot (f y) P):Tot (Option.bind x f) P:=by
 obtain⟨y,rfl,hy⟩:=h;exact k y rfl hy
theorem Tot.of{x:Option β}{f:β→Option α}{y:β}(h:x=some y)(k:Tot (f y) P):Tot (Option.bind x f) P:=by
 subst h;exact k
theorem Tot.cond{c:Bool}{a b:Option α}(h1:c=true→Tot a P)(h2:c=false→Tot b P):Tot (bif c then a else b) P:=by
 cases c with
 |true=>exact h1 rfl
 |false=>exact h2 rfl
theorem Tot.test{p:Prop}{_:Decidable p}{a b:Option α}(h1:p→Tot a P)(h2:¬p→Tot b P):Tot (bif decide p then a else b) P:=by
 by_cases h:p
 ·rw[decide_eq_true h];exact h1 h
 ·rw[decide_eq_false h];exact h2 h
theorem Tot.grd{p:Prop}{_:Decidable p}{a:Option α}(h:p)(k:Tot a P):Tot (bif decide p then a else none) P:=by
 rw[decide_eq_true h];exact k
theorem Tot.get{l:List β}{i:Nat}{f:β→Option α}(h:i<l.length)(k:∀y,l[i]? =some y→y∈l→Tot (f y) P):Tot (Option.bind l[i]? f) P:=by
 have e:=List.getElem?_eq_getElem h;rw[e];exact k _ e (List.getElem_mem h)
theorem Tot.mono{x:Option α}{R:α→Prop}(h:Tot x R)(k:∀r,R r→P r):Tot x P:=by
 obtain⟨r,h1,h2⟩:=h;exact⟨r,h1,k r h2⟩
theorem Tot.elim{x:Option (ρ⊕σ)}{f:ρ→Option α}{g:σ→Option α}{Pr:ρ→Prop}{Ps:σ→Prop}
 (h:Tot x fun o=>(∀r,o=.inl r→Pr r)∧(∀s,o=.inr s→Ps s)) (k1:∀r,Pr r→Tot (f r) P) (k2:∀s,Ps s→Tot (g s) P):Tot (Option.bind x fun o=>Sum.elim f g o) P:=by
 obtain⟨o,rfl,h1,h2⟩:=h
 cases o with
 |inl r=>exact k1 r (h1 r rfl)
 |inr s=>exact k2 s (h2 s rfl)
end
theorem loopT{σ α:Type}(L:Nat→σ→Option α)(I:σ→Prop)(μ:σ→Nat)(P:α→Prop)
 (hs:∀n s,I s→(∀s',I s'→μ s'<μ s→Tot (L n s') P)→Tot (L (n+1) s) P):∀n s,I s→μ s<n→Tot (L n s) P
 |0,s,_,h=>absurd h (Nat.not_lt_zero _)
 |n+1,s,hI,h=>hs n s hI fun s' hI' h'=>loopT L I μ P hs n s' hI' (by omega)
theorem wi64{x:Int}(h1: -9223372036854775808≤x)(h2:x≤9223372036854775807):IntKind.wrap IntKind.i64 x=x:=by rw[IntKind.wrap_i64];omega
theorem w1{i:Nat}(h:i<4611686018427387904):IntKind.wrap IntKind.i64 ((i:Int)+1)=((i+1:Nat):Int):=by rw[wi64 (by omega) (by omega)];omega
structure TrOk(t:Zai):Prop where
 b0:0≤t.Base
 b1:t.Base≤1099511627776
 t0:0≤t.BaseTerm
 t1:t.BaseTerm≤1099511627776
 len:t.Entries.length≤4096
 last:t.Base+(t.Entries.length:Int)≤1099511627776
 ent:∀e,e∈t.Entries→1≤e.Term∧e.Term≤1099511627776∧e.Data.length≤4096
def entOk(e:Zab):Prop:=1≤e.Term∧e.Term≤1099511627776∧e.Data.length≤4096
theorem Zk3(term:Int)(es:List Zab)(hl:es.length≤2000000):Tot (ZdG FF term es) fun b=>b=true→∀e,e∈es→entOk e:=by
 unfold ZdG
 refine Tot.elim (Pr:=fun r=>r=false) (Ps:=fun _=>∀e,e∈es→entOk e) ?_ (fun r h=>.ret (by subst h;simp)) (fun _ h=>.ret fun _=>h)
 have:=loopT (fun n (s:Int×Nat)=>Zds FF es n s.1 (s.2:Int)) (fun s=>s.2≤es.length∧∀e,e∈es.take s.2→entOk e) (fun s=>es.length-s.2)
  (fun o=>(∀r,o=.inl r→r=false)∧(∀s,o=.inr s→∀e,e∈es→entOk e)) (by
   rintro n ⟨tm,i⟩ ⟨hi,hp⟩ k;simp only at hi hp k⊢;simp only[Zds]
   refine Tot.test (fun h=>?_) (fun h=>.ret ⟨(fun r e=>by cases e),fun s _=>by rwa [List.take_of_length_le (by omega)]at hp⟩)
   refine Tot.grd (by omega) (Tot.get (by simpa using by omega) fun y hy hm=>?_)
   rw[Int.toNat_natCast]at hy
   refine Tot.bind (Q:=fun b=>b=false→entOk y) ?_ (fun b _ hb=>Tot.cond (fun _=>.ret ⟨(fun r e=>by cases e;rfl),fun s e=>by cases e⟩) fun hb'=>?_)
   ·refine Tot.test (fun _=>.ret (by simp)) fun h1=>Tot.test (fun _=>.ret (by simp)) fun h2=>.ret fun h3=>?_
    refine⟨?_,by omega,by have:=of_decide_eq_false h3;omega⟩
    split at h1<;>omega
   ·rw[w1 (by omega)]
    refine k (y.Term,i+1) ⟨by simp only;omega,?_⟩ (by simp only;omega)
    intro e he;simp only at he;rw[List.take_add_one,List.mem_append,hy]at he
    rcases he with he|he
    ·exact hp e he
    ·simp only[Option.toList_some,List.mem_singleton]at he;subst he;exact hb hb') FF (term,0) ⟨Nat.zero_le _,by simp⟩ (by simp only[FF];omega)
 exact this
def wsum(q:List UInt8):List Zaa→Int
 | []=>0
 |w::r=>(if w.name=q then w.size else 0)+wsum q r
structure WI(fs:Fs)(l:List Zaa):Prop where
 pos:∀w,w∈l→5≤w.size
 le:∀q,wsum q l≤(((mget q fs).getD []).length:Int)
theorem Zlf(q:List UInt8):∀(a b:List Zaa),wsum q (a++b)=wsum q a+wsum q b
 | [],b=>by simp[wsum]
 |w::r,b=>by simp only[List.cons_append,wsum,Zlf q r b];omega
theorem ZoP{q:List UInt8}:∀{l:List Zaa},(∀w,w∈l→5≤w.size)→0≤wsum q l
 | [],_=>by simp[wsum]
 |w::r,h=>by
  have h1:=h w (List.mem_cons_self ..)
  have:=ZoP (q:=q) fun x hx=>h x (List.mem_cons_of_mem _ hx)
  simp only[wsum];split<;>omega
theorem Zle:∀{l:List Zaa} {w:Zaa},(∀w,w∈l→5≤w.size)→w∈l→w.size≤wsum w.name l
 | [],w,_,h=>by cases h
 |v::r,w,h,hm=>by
  have h1:=h v (List.mem_cons_self ..)
  have h2:∀x,x∈r→5≤x.size:=fun x hx=>h x (List.mem_cons_of_mem _ hx)
  simp only[wsum]
  rcases List.mem_cons.1 hm with rfl|q
  ·have:=ZoP (q:=w.name) h2
   rw[if_pos rfl];omega
  ·have:=Zle h2 q
   split<;>omega
theorem ZnX(q:List UInt8)(w:Zaa)(r:List Zaa):fgt q (w::r)=if w.name=q then fgt q r else w::fgt q r:=by
 unfold fgt;rw[List.filter_cons]
 by_cases h:w.name=q
 ·rw[if_pos h,if_neg (by simpa using h)]
 ·rw[if_neg h,if_pos (by simpa using h)]
theorem ZjE(p q:List UInt8):∀(l:List Zaa),wsum p (fgt q l)=if p=q then 0 else wsum p l
 | []=>by simp[wsum,fgt]
 |w::r=>by
  have ih:=ZjE p q r
  rw[ZnX]
  by_cases h:w.name=q
  ·rw[if_pos h,ih]
   by_cases hp:p=q
   ·rw[if_pos hp,if_pos hp]
   ·rw[if_neg hp,if_neg hp];simp only[wsum];rw[if_neg (fun e=>hp (by rw[←e,h]))];omega
  ·rw[if_neg h]
   simp only[wsum,ih]
   by_cases hp:p=q
   ·rw[if_pos hp,if_pos hp,if_neg (fun e=>h (by rw[e,hp]))];rfl
   ·rw[if_neg hp,if_neg hp]
theorem Znn(q:List UInt8):∀{l:List Zaa},(∀w,w∈l→5≤w.size)→5*(l.length:Int)≤5*((fgt q l).length:Int)+wsum q l
 | [],_=>by simp only[wsum,List.length_nil];omega
 |w::r,h=>by
  have h1:=h w (List.mem_cons_self ..)
  have:=Znn q fun x hx=>h x (List.mem_cons_of_mem _ hx)
  rw[ZnX];simp only[wsum]
  by_cases hp:w.name=q
  ·rw[if_pos hp,if_pos hp,List.length_cons];omega
  ·rw[if_neg hp,if_neg hp,List.length_cons,List.length_cons];omega
theorem Zna{q:List UInt8}{l:List Zaa}{w:Zaa}(h:w∈fgt q l):w∈l:=(List.mem_filter.1 h).1
theorem WI.nil(fs:Fs):WI fs []:=⟨(fun w hw=>by cases hw),fun q=>by simp only[wsum];omega⟩
theorem ZrI:∀(fs:Fs) (l:List Zaa),WI fs l→5*(l.length:Int)≤(tot fs:Int)
 | [],l,h=>by
  cases l with
  |nil=>simp
  |cons w r=>
   have h1:=h.pos w (List.mem_cons_self ..)
   have h2:=Zle h.pos (List.mem_cons_self ..)
   have h3:=h.le w.name
   simp only[mget,Option.getD_none,List.length_nil]at h3;omega
 |(q,x)::fs,l,h=>by
  have ih:=ZrI fs (fgt q l) ⟨fun w hw=>h.pos w (Zna hw),fun p=>by
   rw[ZjE]
   by_cases hp:p=q
   ·rw[if_pos hp];omega
   ·have:=h.le p
    simp only[mget]at this;rw[if_neg hp]at this⊢;exact this⟩
  have h1:=Znn q h.pos
  have h2:=h.le q
  simp[mget]at h2;simp only[tot,List.map_cons,List.sum_cons]at ih⊢;omega
theorem WI.len{c:Int}{fs:Fs}{l:List Zaa}(h:WI fs l)(hD:DI c fs):l.length≤209716:=by
 have:=ZrI fs l h
 have:=hD.le
 omega
theorem ZkW{p q:List UInt8}{x:List Int}(h:p≠q):∀(fs:Fs),mget p (mput q x fs)=mget p fs
 | []=>by simp[mput,mget,h]
 |(k,y)::r=>by
  simp only[mput];split
  ·rename_i e
   subst e;simp only[mget];rw[if_neg h,if_neg h]
  ·simp only[mget,ZkW h r]
theorem ZnM(p q:List UInt8)(x:List Int)(fs:Fs):mget p (mput q x fs)=if p=q then some x else mget p fs:=by
 by_cases h:p=q
 ·subst h;rw[if_pos rfl,Zj6]
 ·rw[if_neg h,ZkW h]
theorem WI.app{fs:Fs}{l:List Zaa}(h:WI fs l)(q:List UInt8)(b:List Int)(hb:5≤b.length):WI (mput q ((mget q fs).getD []++b) fs) (l++[Zaa.mk q (b.length:Int)]):=
 ⟨fun w hw=>by
  rcases List.mem_append.1 hw with k|k
  ·exact h.pos w k
  ·simp only[List.mem_singleton]at k;subst k;simp only;omega,fun p=>by
  have:=h.le p
  rw[Zlf,ZnM];simp only[wsum]
  by_cases hp:p=q
  ·subst hp;rw[if_pos rfl,if_pos rfl,Option.getD_some,List.length_append];omega
  ·rw[if_neg (fun e:q=p=>hp e.symm),if_neg hp];omega⟩
theorem WI.fgt{fs:Fs}{l:List Zaa}(h:WI fs l)(q:List UInt8):WI fs (fgt q l):=
 ⟨fun w hw=>h.pos w (Zna hw),fun p=>by
  rw[ZjE];split
  ·omega
  ·exact h.le p⟩
theorem WI.del{fs:Fs}{l:List Zaa}(h:WI fs l)(q:List UInt8):WI (mdel q fs) (Go.T.fgt q l):=
 ⟨fun w hw=>h.pos w (Zna hw),fun p=>by
  rw[ZjE];split
  ·omega
  ·rename_i hp
   rw[Zje hp];exact h.le p⟩
theorem DI.trunc{c:Int}{fs:Fs}(h:DI c fs)(q:List UInt8)(x:List Int)(k:Nat)(hg:mget q fs=some x)(hk:k≤x.length):DI (c-((x.length-k:Nat):Int)) (mput q (x.take k) fs):=by
 obtain⟨h1,h2,h3⟩:=Zj4 (x.take k) x hg
 rw[List.length_take,Nat.min_eq_left hk]at h2
 have hm:=ZeB hg
 have:=h.le
 have:=h.tot
 refine⟨by rw[h1];exact h.nk,by omega,by omega,by rw[h3];exact h.n64,?_,?_⟩
 ·intro e he
  rcases Zh5 he with rfl|he
  ·exact h.names (q,x) hm
  ·exact h.names e he
 ·intro e he
  rcases Zh5 he with rfl|he
  ·exact fun y hy=>h.byt (q,x) hm y (List.mem_of_mem_take hy)
  ·exact h.byt e he
theorem lostL(a t:Int)(ha:5≤a)(h:a≤1048576):∃k:Nat,IntKind.wrap IntKind.i64 (a-(if(a<(if((0:Int)>t)then(0:Int)else t))then a else(if((0:Int)>t)then(0:Int)else t)))=(k:Int)∧(k:Int)≤a:=by
 have:∃z:Int,(if(a<(if((0:Int)>t)then(0:Int)else t))then a else(if((0:Int)>t)then(0:Int)else t))=z∧0≤z∧z≤a:=by
  refine⟨_,rfl,?_,?_⟩<;>(repeat' split)<;>omega
 obtain⟨z,e,h1,h2⟩:=this
 rw[e,wi64 (by omega) (by omega)]
 exact⟨(a-z).toNat,by omega,by omega⟩
theorem Zqn(keep torn:Int)(c:Int)(fs:Fs)(l:List Zaa)(hD:DI c fs)(hW:WI fs l):Tot (Zdd FF keep torn c fs l) fun r=>DI r.1 r.2:=by
 unfold Zdd
 have hl:=hW.len hD
 refine Tot.bind (Q:=fun r=>DI r.1 r.2) ?_ fun r _ hr=>.ret hr
 rw[List.length_map,wi64 (by omega) (by omega)]
 obtain⟨K,hK⟩:∃K:Nat,(if((l.length:Int)<(if((0:Int)>keep)then(0:Int)else keep))then(l.length:Int)else(if((0:Int)>keep)then(0:Int)else keep))=(K:Int):=by
  refine⟨Int.toNat _,(Int.toNat_of_nonneg ?_).symm⟩
  (repeat' split)<;>omega
 have:=loopT (fun n (s:Nat×Int×Fs)=>Za9 FF keep torn l n ((s.1:Int)-1) s.2.1 s.2.2) (fun s=>s.1≤l.length∧DI s.2.1 s.2.2∧WI s.2.2 (l.take s.1)) (fun s=>s.1) (fun r=>DI r.1 r.2) (by
  rintro n ⟨i,c,fs⟩ ⟨h1,h2,h3⟩ k;simp only at h1 h2 h3 k⊢;simp only[Za9];rw[hK]
  refine Tot.test (fun hi=>?_) fun _=>.ret h2
  obtain⟨j,rfl⟩:∃j,i=j+1:=⟨i-1,by omega⟩
  have hj:((j+1:Nat):Int)-1=(j:Int):=by omega
  rw[hj]at hi⊢
  refine Tot.grd (by omega) (Tot.get (by simp;omega) fun _ _ _=>Tot.get (by simp;omega) fun w hw hm=>?_)
  rw[Int.toNat_natCast]at hw
  have ht:l.take (j+1)=l.take j++[w]:=by rw[List.take_add_one,hw];rfl
  have hwm:w∈l.take (j+1):=by rw[ht];simp
  have w5:=h3.pos w hwm
  have ws:=Zle h3.pos hwm
  have wl:=h3.le w.name
  have hle:=h2.le
  cases hg:mget w.name fs with
  |none=>rw[hg]at wl;simp only[Option.getD_none,List.length_nil]at wl;omega
  |some x=>
   rw[hg,Option.getD_some]at wl
   have hxl:=ZhC (ZeB hg)
   simp only at hxl
   refine Tot.bind (Q:=fun z=>∃k:Nat,z=(k:Int)∧(k:Int)≤w.size) ?_ fun z _ hz=>?_
   ·refine Tot.cond (fun _=>.ret (lostL w.size torn w5 (by omega))) fun _=>.ret ⟨w.size.toNat,by omega,by omega⟩
   ·obtain⟨z,rfl,hz⟩:=hz
    simp only[Option.isSome_some,cond_true,Option.getD_some,List.length_map]
    have e1:IntKind.wrap IntKind.i64 ((x.length:Int)-(z:Int))=(x.length:Int)-(z:Int):=wi64 (by omega) (by omega)
    simp only[e1]
    refine Tot.grd (by omega) (Tot.grd (by omega) (Tot.grd (by have:=h2.n64;unfold LIM;omega) ?_))
    rw[wi64 (by omega) (by omega),wi64 (by have:=h2.tot;omega) (by have:=h2.tot;omega),show((x.length:Int)-(z:Int)).toNat=x.length-z by omega]
    have hDn:=h2.trunc w.name x (x.length-z) hg (by omega)
    rw[show x.length-(x.length-z)=z by omega]at hDn
    refine k (j,_,_) ⟨by simp only;omega,hDn,⟨fun v hv=>h3.pos v (by rw[ht];exact List.mem_append_left _ hv),fun p=>?_⟩⟩ (by simp only;omega)
    have hp:=h3.le p
    rw[ht,Zlf]at hp;simp only[wsum]at hp;simp only;rw[ZnM]
    by_cases e:p=w.name
    ·rw[if_pos e,Option.getD_some,List.length_take]
     subst e;rw[if_pos rfl,hg,Option.getD_some]at hp;omega
    ·rw[if_neg e]
     rw[if_neg (fun q=>e q.symm)]at hp
     omega) FF (l.length,c,fs) ⟨Nat.le_refl _,hD,by rw[List.take_length];exact hW⟩ (by simp only[FF];omega)
 exact this
def nameL(n:Nat):List UInt8:=logS++Lib.itoa (n:Int)
theorem Zly(n:Nat)(h:n<10000000000):(Lib.itoa (n:Int)).length≤10:=by
 rw[ZlD];exact Zk7 n 9 h
theorem Zq2(file:List UInt8)(c2 c3:Int)(FS:List (List Int))(y1:List UInt8)(fs:Fs)(hy:y1.length≤10)(hn:mget (logS++y1) fs=none)(hF:FS.length≤1048577)(hfr:∀x,x∈FS→x.length≤70000∧Byt x)(h5:∀x,x∈FS→5≤x.length):
 ∀(d i m:Nat) (c:Int) (X:List Int) (l:List Zaa),i+d=FS.length→d<m→DI c (fs++[(logS++y1,X)])→l.length≤900000+i→
 (∃c' fs' l',Zaz FF file c2 c3 (0,FS) y1 m (i:Int) c (fs++[(logS++y1,X)]) l=some (.inl (3,file,IntKind.wrap IntKind.i64 (c2+1),c3,c',fs',l'))∧(Zeb FF (logS++y1)≠some true∨1048576<tot fs+X.length+(FS.drop i).flatten.length)∧(WI (fs++[(logS++y1,X)]) l→DI c' fs'∧WI fs' l'))∨
 (∃E c',Zaz FF file c2 c3 (0,FS) y1 m (i:Int) c (fs++[(logS++y1,X)]) l=some (.inr (c',fs++[(logS++y1,X++(FS.drop i).flatten)],l++E))∧(∀w,w∈E→w.name=logS++y1)∧E.length=d∧
  DI c' (fs++[(logS++y1,X++(FS.drop i).flatten)])∧(WI (fs++[(logS++y1,X)]) l→WI (fs++[(logS++y1,X++(FS.drop i).flatten)]) (l++E))):=by
 intro d
 induction d with
 |zero=>
  intro i m c X l h hm hD hl
  obtain⟨m,rfl⟩:∃k,m=k+1:=⟨m-1,by omega⟩
  right
  have e:FS.drop i=[]:=List.drop_of_length_le (by omega)
  rw[e]
  refine⟨[],c,?_,(fun w hw=>by cases hw),rfl,by simpa using hD,fun hw=>by simpa using hw⟩
  unfold Zaz
  rw[decide_eq_false (by show¬(i:Int)<((FS.length:Nat):Int);omega),cond_false]
  simp
 |succ d ih=>
  intro i m c X l h hm hD hl
  obtain⟨m,rfl⟩:∃k,m=k+1:=⟨m-1,by omega⟩
  have hi:i<FS.length:=by omega
  have hdr:=List.drop_eq_getElem_cons hi
  have hx:=hfr _ (List.getElem_mem hi)
  have hg:mget (logS++y1) (fs++[(logS++y1,X)])=some X:=by rw[ZiL hn];simp[mget]
  have hl4:logS.length=4:=rfl
  unfold Zaz;simp only
  rw[decide_eq_true (by omega),cond_true,ge0,cond_true,cI,List.getElem?_eq_getElem hi,Option.bind_some,wadd i (by omega),show([108,111,103,45]:List UInt8)=logS from rfl]
  rcases Zix (logS++y1) FS[i] c _ l (by rw[List.length_append];omega) (by omega) hD (by omega)with ⟨e,he,h1,hwhy⟩|⟨h1,h2,h3,h4⟩
  ·rw[h1,Option.bind_some]
   left
   refine⟨c,fs++[(logS++y1,X)],l,?_,?_,fun hw=>⟨hD,hw⟩⟩
   rotate_left
   ·rw[Zlj,hg]at hwhy
    rw[hdr,List.flatten_cons,List.length_append]
    have htx:tot [(logS++y1,X)]=X.length:=by simp[tot]
    rw[htx]at hwhy
    rcases hwhy with q|q|⟨q,_⟩
    ·exact .inl q
    ·exact .inr (by omega)
    ·cases q
   simp only
   rw[show((e != 0)=true)from by rcases he with rfl|rfl<;>rfl,cond_true]
  ·have hD2:=hD.put (logS++y1) FS[i] h2 hx.2 h3 (fun q=>by rw[hg]at q;cases q)
   rw[hg]at h1 hD2;simp only[Option.getD_some]at h1 hD2
   have hW2:WI (fs++[(logS++y1,X)]) l→WI (fs++[(logS++y1,X++FS[i])]) (l++[Zaa.mk (logS++y1) ((FS[i]).length:Int)]):=fun hw=>by
    have:=hw.app (logS++y1) FS[i] (h5 _ (List.getElem_mem hi))
    rw[hg,Option.getD_some,ZlA _ _ hn]at this;exact this
   rw[ZlA _ _ hn]at h1 hD2;rw[h1,Option.bind_some]
   simp only[show((0:Int) != 0)=false from rfl,cond_false]
   rcases ih (i+1) m _ (X++FS[i]) (l++[Zaa.mk (logS++y1) ((FS[i]).length:Int)]) (by omega) (by omega) hD2 (by simp;omega)with ⟨c',fs',l',g,hwhy,hd⟩|⟨E,c',g1,g2,g3,g4,g5⟩
   ·refine .inl ⟨c',fs',l',g,?_,fun hw=>hd (hW2 hw)⟩
    rw[hdr,List.flatten_cons,List.length_append];rw[List.length_append]at hwhy
    rcases hwhy with q|q
    ·exact .inl q
    ·exact .inr (by omega)
   ·refine .inr ⟨Zaa.mk (logS++y1) ((FS[i]).length:Int)::E,c',?_,fun w hw=>?_,by simp[g3],?_,fun hw=>?_⟩
    ·rw[g1,hdr];simp only[List.flatten_cons,List.append_assoc,List.singleton_append,List.cons_append,List.nil_append]
    ·rcases List.mem_cons.1 hw with rfl|hw
     ·rfl
     ·exact g2 w hw
    ·rw[hdr,List.flatten_cons,←List.append_assoc];exact g4
    ·have:=g5 (hW2 hw)
     rw[List.append_assoc l]at this;rw[hdr,List.flatten_cons,←List.append_assoc];exact this
theorem Zpm(file:List UInt8)(c2 c3:Int)(x0:List Int)(FS:List (List Int))(y1:List UInt8)(fs:Fs)(c:Int)(l:List Zaa)(hy:y1.length≤10)(hn:mget (logS++y1) fs=none)(hF:FS.length≤1048576)(hfr:∀x,x∈x0::FS→x.length≤70000∧Byt x)(h5:∀x,x∈x0::FS→5≤x.length)
 (hD:DI c fs) (hl:l.length≤900000):
 (∃c' fs' l',Zaz FF file c2 c3 (0,x0::FS) y1 FF 0 c fs l=some (.inl (3,file,IntKind.wrap IntKind.i64 (c2+1),c3,c',fs',l'))∧(Zeb FF (logS++y1)≠some true∨1048576<tot fs+x0.length+FS.flatten.length∨64≤fs.length)∧(WI fs l→DI c' fs'∧WI fs' l'))∨
 (∃E c',Zaz FF file c2 c3 (0,x0::FS) y1 FF 0 c fs l=some (.inr (c',fs++[(logS++y1,x0++FS.flatten)],l++E))∧(∀w,w∈E→w.name=logS++y1)∧E.length≤1048577∧
  DI c' (fs++[(logS++y1,x0++FS.flatten)])∧(WI fs l→WI (fs++[(logS++y1,x0++FS.flatten)]) (l++E))):=by
 have hx:=hfr x0 (List.mem_cons_self ..)
 have hl4:logS.length=4:=rfl
 have hstep:Zaz FF file c2 c3 (0,x0::FS) y1 (3999999+1) 0 c fs l=Option.bind (Zbu FF (logS++y1) x0 c fs l) fun y_26=>
  bif (y_26.1 != (0:Int))then some (.inl (3,file,IntKind.wrap IntKind.i64 (c2+1),c3,y_26.2.1,y_26.2.2.1,y_26.2.2.2))else Zaz FF file c2 c3 (0,x0::FS) y1 3999999 ((1:Nat):Int) y_26.2.1 y_26.2.2.1 y_26.2.2.2:=by
  conv=>lhs;unfold Zaz
  simp only
  rw[decide_eq_true (by rw[List.length_cons];omega),cond_true,show decide ((0:Int)≤0)=true from rfl,cond_true,show Int.toNat 0=0 from rfl,List.getElem?_cons_zero,Option.bind_some,show([108,111,103,45]:List UInt8)=logS from rfl,
   show IntKind.wrap IntKind.i64 ((0:Int)+1)=((1:Nat):Int) by rw[IntKind.wrap_i64];rfl]
 rw[show Zaz FF file c2 c3 (0,x0::FS) y1 FF 0 c fs l=_ from hstep]
 rcases Zix (logS++y1) x0 c fs l (by rw[List.length_append];omega) (by omega) hD (by omega)with ⟨e,he,h1,hwhy⟩|⟨h1,h2,h3,h4⟩
 ·rw[h1,Option.bind_some]
  left
  refine⟨c,fs,l,?_,?_,fun hw=>⟨hD,hw⟩⟩
  rotate_left
  ·rcases hwhy with q|q|⟨_,q⟩
   ·exact .inl q
   ·exact .inr (.inl (by omega))
   ·exact .inr (.inr q)
  simp only
  rw[show((e != 0)=true)from by rcases he with rfl|rfl<;>rfl,cond_true]
 ·have hD2:=hD.put (logS++y1) x0 h2 hx.2 h3 h4
  rw[hn]at h1 hD2;simp only[Option.getD_none,List.nil_append]at h1 hD2
  have hW2:WI fs l→WI (fs++[(logS++y1,x0)]) (l++[Zaa.mk (logS++y1) (x0.length:Int)]):=fun hw=>by
   have:=hw.app (logS++y1) x0 (h5 _ (List.mem_cons_self ..))
   rw[hn,Option.getD_none,List.nil_append,Zg2 _ hn]at this;exact this
  rw[Zg2 _ hn]at h1 hD2;rw[h1,Option.bind_some]
  simp only[show((0:Int) != 0)=false from rfl,cond_false]
  rcases Zq2 file c2 c3 (x0::FS) y1 fs hy hn (by rw[List.length_cons];omega) hfr h5 FS.length 1 3999999 _ x0 (l++[Zaa.mk (logS++y1) (x0.length:Int)]) (by rw[List.length_cons];omega) (by omega) hD2 (by simp;omega)with ⟨c',fs',l',g,hwhy,hd⟩|⟨E,c',g1,g2,g3,g4,g5⟩
  ·refine .inl ⟨c',fs',l',g,?_,fun hw=>hd (hW2 hw)⟩
   rcases hwhy with q|q
   ·exact .inl q
   ·exact .inr (.inl (by simpa using q))
  ·refine .inr ⟨Zaa.mk (logS++y1) (x0.length:Int)::E,c',?_,fun w hw=>?_,by simp[g3];omega,g4,fun hw=>by simpa using g5 (hW2 hw)⟩
   ·rw[g1];simp
   ·rcases List.mem_cons.1 hw with rfl|hw
    ·rfl
    ·exact g2 w hw
theorem Zp5(r:List Int):5≤(Za2 r).length:=by
 rw[ZeT]
 have h9:=ZeU 9 r.length
 have h10:1≤(putL r.length).length:=h9.1
 omega
def base(file:List UInt8)(fs:Fs):Fs:=if file=[]then fs else mdel file fs
theorem ZkQ(recs:List (List Int))(file:List UInt8)(last:Nat)(c3 c:Int)(fs:Fs)(l:List Zaa)(hr:recs.length≤1048576)(hB:∀x,x∈recs→Byt x)(hlast:last≤999999999)(hD:DI c fs)(hl:l.length≤900000)
 (hfresh:∀n:Nat,last<n→n≤999999999→mget (nameL n) fs=none) (hfile:file=[]∨∃x,mget file fs=some x):
 (Zbh FF recs file last c3 c fs l=some ((1:Int),file,(last:Int),c3,c,fs,l)∧∃x,x∈recs∧65536<x.length)∨
 (∃c2 c' fs' l',Zbh FF recs file last c3 c fs l=some ((3:Int),file,c2,c3,c',fs',l')∧(ZbY (nameL (last+1))=0∨Zeb FF (nameL (last+1))≠some true∨1048576<tot fs+(logL recs.length recs []).length∨64≤fs.length)∧(WI fs l→DI c' fs'∧WI fs' l'))∨
 (Recs recs∧last+1≤999999999∧∃c' l',Zbh FF recs file last c3 c fs l=some ((0:Int),nameL (last+1),((last+1:Nat):Int),(recs.length:Int),c',base file fs++[(nameL (last+1),logL recs.length recs [])],l')∧
  DI c' (base file fs++[(nameL (last+1),logL recs.length recs [])])∧(∀w,w∈l'→w∈l∧w.name≠nameL (last+1)∧(file≠[]→w.name≠file))∧l'.length≤l.length∧(WI fs l→WI (base file fs++[(nameL (last+1),logL recs.length recs [])]) l')):=by
 unfold Zbh
 rcases Zm7 recs hr with ⟨h1,h2⟩|⟨h1,h2⟩
 ·right
  have hR:Recs recs:=fun x hx=>⟨h2 x hx,hB x hx⟩
  have hil:=Zly (last+1) (by omega)
  rw[h1,Option.bind_some]
  simp only[show((0:Int) != 0)=false from rfl,cond_false]
  rw[wadd last (by omega)]
  unfold strconv_Itoa
  rw[decide_eq_true (by omega),cond_true,Option.bind_some,show([108,111,103,45]:List UInt8)=logS from rfl,decide_eq_true (by show 4+_≤_;omega),cond_true]
  unfold ZfY
  rw[decide_eq_true (by rw[List.length_append];show 4+_≤1073741824;omega),cond_true,Option.bind_some]
  by_cases hz:ZbY (logS++Lib.itoa ((last+1:Nat):Int))=0
  ·rw[hz]
   left
   exact⟨_,c,fs,l,by rw[show(((0:Int)==0)=true)from rfl,cond_true],.inl hz,fun hw=>⟨hD,hw⟩⟩
  ·rw[show(ZbY (logS++Lib.itoa ((last+1:Nat):Int))==0)=false by simpa using hz,cond_false]
   obtain⟨n,n1,n2,n3,n4⟩:=ZkV hz
   have hn:n=last+1:=(ZnS (by omega) (by omega) (List.append_cancel_left n4)).symm
   subst hn
   have hnew:=hfresh (last+1) (by omega) n3
   have hp:=ZeU 9 recs.length
   have hp2:(putL recs.length).length≤10:=hp.2
   have hfr:∀x,x∈Za2 (putL recs.length)::recs.map Za2→x.length≤70000∧Byt x:=by
    intro x hx
    rcases List.mem_cons.1 hx with rfl|hx
    ·exact⟨by rw[ZeT];have h9:=ZeU 9 (putL recs.length).length;have h10:(putL (putL recs.length).length).length≤10:=h9.2;omega,ZiU _ (Zlu _ _)⟩
    ·obtain⟨r,hr',rfl⟩:=List.mem_map.1 hx
     have:=hR r hr'
     have h9:=ZeU 9 r.length
     have h10:(putL r.length).length≤10:=h9.2
     exact⟨by rw[ZeT];omega,ZiU _ this.2⟩
   have hX:Za2 (putL recs.length)++(recs.map Za2).flatten=logL recs.length recs []:=by
    unfold logL;rw[List.append_nil,List.flatMap_def]
   have h5:∀x,x∈Za2 (putL recs.length)::recs.map Za2→5≤x.length:=by
    intro x hx
    rcases List.mem_cons.1 hx with rfl|hx
    ·exact Zp5 _
    ·obtain⟨r,hr',rfl⟩:=List.mem_map.1 hx
     exact Zp5 _
   rcases Zpm file (last:Int) c3 (Za2 (putL recs.length)) (recs.map Za2) (Lib.itoa ((last+1:Nat):Int)) fs c l hil hnew (by simpa using hr) hfr h5 hD hl with ⟨c',fs',l',g,hwhy,hd⟩|⟨E,c',g1,g2,g3,g4,gw⟩
   ·left
    rw[g];rw[Nat.add_assoc,←List.length_append,hX]at hwhy;exact⟨_,c',fs',l',rfl,.inr hwhy,hd⟩
   ·right
    rw[hX]at g1 g4 gw;rw[g1];simp only[Option.bind_some,Sum.elim_inr,List.length_map]
    have hgN:mget (nameL (last+1)) (fs++[(nameL (last+1),logL recs.length recs [])])=some (logL recs.length recs []):=by rw[ZiL hnew];simp[mget]
    rw[show logS++Lib.itoa ((last+1:Nat):Int)=nameL (last+1)from rfl]at*
    rw[ZlX hgN (by rw[List.length_append];omega),Option.bind_some]
    simp only
    have hf0:fgt (nameL (last+1)) (l++E)=fgt (nameL (last+1)) l:=by
     unfold fgt;rw[List.filter_append]
     have:E.filter (fun w=>!(w.name==nameL (last+1)))=[]:=by
      rw[List.filter_eq_nil_iff];intro w hw;rw[g2 w hw];simp
     rw[this,List.append_nil]
    rw[hf0]
    have hW3:WI fs l→WI (fs++[(nameL (last+1),logL recs.length recs [])]) (fgt (nameL (last+1)) l):=fun hw=>by
     have:=(gw hw).fgt (nameL (last+1))
     rw[hf0]at this;exact this
    refine⟨hR,n3,?_⟩
    have hsub:∀(q:List UInt8) (k:List Zaa),∀w,w∈fgt q k→w∈k∧w.name≠q:=by
     intro q k w hw
     have:=List.mem_filter.1 hw
     exact⟨this.1,by simpa using this.2⟩
    have hlen:∀(q:List UInt8) (k:List Zaa),(fgt q k).length≤k.length:=fun q k=>List.length_filter_le ..
    rcases hfile with rfl|⟨x,hx⟩
    ·rw[show(!(([]:List UInt8)==[]))=false from rfl,cond_false,Option.bind_some]
     refine⟨c',fgt (nameL (last+1)) l,?_,?_,fun w hw=>?_,hlen _ _,fun hw=>by simp only[base,if_true];exact hW3 hw⟩
     ·simp only[base,if_true]
     ·simp only[base,if_true];exact g4
     ·exact⟨(hsub _ _ w hw).1,(hsub _ _ w hw).2,fun q=>absurd rfl q⟩
    ·by_cases hfe:file=[]
     ·subst hfe
      rw[show(!(([]:List UInt8)==[]))=false from rfl,cond_false,Option.bind_some]
      refine⟨c',fgt (nameL (last+1)) l,?_,?_,fun w hw=>?_,hlen _ _,fun hw=>by simp only[base,if_true];exact hW3 hw⟩
      ·simp only[base,if_true]
      ·simp only[base,if_true];exact g4
      ·exact⟨(hsub _ _ w hw).1,(hsub _ _ w hw).2,fun q=>absurd rfl q⟩
     ·rw[show(!(file==[]))=true by simpa using hfe,cond_true]
      have hx2:=Zmj (gs:=[(nameL (last+1),logL recs.length recs [])]) hx
      have hxl:=ZhC (ZeB hx2)
      simp only at hxl
      have t1:=g4.tot
      have t2:=g4.le
      have:=hlen (nameL (last+1)) l
      rw[ZjU hx2 (by omega) (by omega),Option.bind_some]
      have hD3:=g4.del file x hx2
      rw[ZjL hx]at hD3
      refine⟨_,fgt file (fgt (nameL (last+1)) l),?_,by rw[base,if_neg hfe];exact hD3,fun w hw=>?_,by have:=hlen file (fgt (nameL (last+1)) l);omega,fun hw=>?_⟩
      ·simp only
       rw[ZjL hx,Option.bind_some,base,if_neg hfe]
      ·have a1:=hsub _ _ w hw
       have a2:=hsub _ _ w a1.1
       exact⟨a2.1,a2.2,fun _=>a1.2⟩
      ·have:=(hW3 hw).del file
       rw[ZjL hx]at this;rw[base,if_neg hfe];exact this
 ·left
  rw[h1,Option.bind_some];exact⟨rfl,h2⟩
end Go.T
