import Derived.Test.YtjpmdkgonlmddaaGreatDoorLA
set_option linter.unusedVariables false
set_option linter.unusedSimpArgs false
namespace Go.T
open Go Go.Ab
abbrev Fs:=List (List UInt8×List Int)
def tot(fs:Fs):Nat:=(fs.map fun e=>e.2.length).sum
theorem ZeA{q:List UInt8}{x:List Int}:∀{fs:Fs},mget q fs=some x→(q,x)∈fs
 | [],h=>by cases h
 |e::r,h=>by
  unfold mget at h;split at h
  ·rename_i hq
   injection h with h
   subst hq h;exact Ys ..
  ·exact Yk _ (ZeA h)
theorem Zfe{q:List UInt8}:∀{fs:Fs},mget q fs=none↔∀e,e∈fs→e.1≠q
 | []=>by simp[mget]
 |e::r=>by
  unfold mget;split
  ·rename_i hq
   simp only[reduceCtorEq,false_iff]
   exact fun h=>h e (Ys ..) hq.symm
  ·rename_i hq
   rw[Zfe (fs:=r)]
   constructor
   ·intro h e' he
    rcases Yj.1 he with rfl|he
    ·exact fun q=>hq q.symm
    ·exact h e' he
   ·exact fun h e' he=>h e' (Yk _ he)
theorem Zsq{fs:Fs}(h:(fs.map Prod.fst).Nodup){e:List UInt8×List Int}(he:e∈fs):mget e.1 fs=some e.2:=by
 induction fs with
 |nil=>cases he
 |cons d r ih=>
  simp only[Yp,V5]at h;unfold mget
  rcases Yj.1 he with rfl|he
  ·rw[if_pos rfl]
  ·rw[if_neg,ih h.2 he]
   intro q;exact h.1 (q▸WM he)
theorem ZgY{q:List UInt8}(x:List Int):∀{fs:Fs},mget q fs=none→mput q x fs=fs++[(q,x)]
 | [],_=>rfl
 |e::r,h=>by
  unfold mget at h;split at h
  ·cases h
  ·rename_i hq
   unfold mput;rw[if_neg hq,ZgY x h];rfl
theorem Zj2{q:List UInt8}(x y:List Int):∀{fs:Fs},mget q fs=some y→(mput q x fs).map Prod.fst=fs.map Prod.fst∧tot (mput q x fs)+y.length=tot fs+x.length∧(mput q x fs).length=fs.length
 | [],h=>by cases h
 |e::r,h=>by
  unfold mget at h;unfold mput;split at h
  ·rename_i hq
   injection h with h
   rw[if_pos hq];subst hq h;simp[tot];omega
  ·rename_i hq
   rw[if_neg hq]
   obtain⟨h1,h2,h3⟩:=Zj2 x y h
   simp only[Yp,h1,tot,List.sum_cons,Yf,h3,true_and,and_true];unfold tot at h2;omega
theorem Zh0{q:List UInt8}{x:List Int}{e:List UInt8×List Int}:∀{fs:Fs},e∈mput q x fs→e=(q,x)∨e∈fs
 | [],h=>by simpa[mput]using h
 |d::r,h=>by
  unfold mput at h;split at h
  ·rcases Yj.1 h with rfl|h
   ·exact .inl rfl
   ·exact .inr (Yk _ h)
  ·rcases Yj.1 h with rfl|h
   ·exact .inr (Ys ..)
   ·exact(Zh0 h).imp id (Yk _)
theorem Zj4{q:List UInt8}(x:List Int):∀(fs:Fs),mget q (mput q x fs)=some x
 | []=>by simp[mput,mget]
 |d::r=>by
  unfold mput;split
  ·simp[mget]
  ·rename_i hq
   unfold mget;rw[if_neg hq,Zj4 x r]
theorem ZiG{q:List UInt8}:∀{fs gs:Fs},mget q fs=none→mget q (fs++gs)=mget q gs
 | [],gs,_=>rfl
 |d::r,gs,h=>by
  unfold mget at h;split at h
  ·cases h
  ·rename_i hq
   rw[YH,mget,if_neg hq,ZiG h]
theorem Zmd{q:List UInt8}{x:List Int}:∀{fs gs:Fs},mget q fs=some x→mget q (fs++gs)=some x
 | [],gs,h=>by cases h
 |d::r,gs,h=>by
  unfold mget at h;rw[YH,mget];split at h
  ·rename_i hq
   rw[if_pos hq,h]
  ·rename_i hq
   rw[if_neg hq,Zmd h]
theorem Zlu{q:List UInt8}(x y:List Int):∀{fs:Fs},mget q fs=none→mput q x (fs++[(q,y)])=fs++[(q,x)]
 | [],_=>by simp[mput]
 |d::r,h=>by
  unfold mget at h;split at h
  ·cases h
  ·rename_i hq
   rw[YH,mput,if_neg hq,Zlu x y h];rfl
theorem Zh1{q:List UInt8}:∀(fs:Fs),(mdel q fs).Sublist fs
 | []=>.slnil
 |d::r=>by
  unfold mdel;split
  ·exact List.sublist_cons_self ..
  ·exact(Zh1 r).cons_cons _
theorem ZnH{q:List UInt8}{x:List Int}:∀{fs:Fs},mget q fs=some x→tot (mdel q fs)+x.length=tot fs
 | [],h=>by cases h
 |d::r,h=>by
  unfold mget at h;unfold mdel;split at h
  ·rename_i hq
   injection h with h
   rw[if_pos hq];subst h;simp[tot];omega
  ·rename_i hq
   rw[if_neg hq]
   have:=ZnH h
   simp only[tot,Yp,List.sum_cons]at this⊢;omega
theorem ZiH{q:List UInt8}:∀{fs:Fs},(fs.map Prod.fst).Nodup→mget q (mdel q fs)=none
 | [],_=>rfl
 |d::r,h=>by
  simp only[Yp,V5]at h;unfold mdel;split
  ·rename_i hq
   rw[Zfe];intro e he hc
   exact h.1 (by rw[←hq,←hc];exact WM he)
  ·rename_i hq
   unfold mget;rw[if_neg hq,ZiH h.2]
theorem Zja{p q:List UInt8}(hpq:p≠q):∀(fs:Fs),mget p (mdel q fs)=mget p fs
 | []=>rfl
 |d::r=>by
  unfold mdel;split
  ·rename_i hq
   rw[mget,if_neg (by rw[←hq];exact hpq)]
  ·rw[mget,mget,Zja hpq r]
theorem ZjK{q:List UInt8}{x:List Int}:∀{fs gs:Fs},mget q fs=some x→mdel q (fs++gs)=mdel q fs++gs
 | [],gs,h=>by cases h
 |d::r,gs,h=>by
  unfold mget at h;rw[YH,mdel,mdel];split at h
  ·rename_i hq
   rw[if_pos hq,if_pos hq]
  ·rename_i hq
   rw[if_neg hq,if_neg hq,ZjK h];rfl
structure DI(c:Int)(fs:Fs):Prop where
 nk:(fs.map Prod.fst).Nodup
 tot:c=(tot fs:Int)
 le:Go.T.tot fs≤1048576
 n64:fs.length≤64
 names:∀e,e∈fs→e.1.length≤16
 byt:∀e,e∈fs→Byt e.2
theorem Zhx{fs:Fs}{e:List UInt8×List Int}(h:e∈fs):e.2.length≤tot fs:=by
 induction fs with
 |nil=>cases h
 |cons d r ih=>
  simp only[tot,Yp,List.sum_cons]at ih⊢
  rcases Yj.1 h with rfl|h
  ·omega
  ·have:=ih h;omega
theorem Zld(a b:Fs):tot (a++b)=tot a+tot b:=by simp[tot]
theorem DI.put{c:Int}{fs:Fs}(h:DI c fs)(q:List UInt8)(b:List Int)(hq:q.length≤16)(hb:Byt b)(hle:Go.T.tot fs+b.length≤1048576)(h64:mget q fs=none→fs.length<64):
 DI (c+(b.length:Int)) (mput q ((mget q fs).getD []++b) fs):=by
 cases hg:mget q fs with
 |none=>
  simp only[Option.getD_none,YO];rw[ZgY b hg]
  have hn:=Zfe.1 hg
  refine⟨?_,?_,?_,?_,?_,?_⟩
  ·rw[Yb,List.map_singleton,Vg]
   refine⟨h.nk,by simp,?_⟩
   intro a ha b' hb' hab;simp only[YB]at hb'
   obtain⟨e,he,rfl⟩:=YK.1 ha
   exact hn e he (hab.trans hb')
  ·rw[Zld,h.tot];simp[Go.T.tot]
  ·rw[Zld];simpa[Go.T.tot]using hle
  ·have:=h64 hg;simp;omega
  ·intro e he
   rcases Yy.1 he with he|he
   ·exact h.names e he
   ·simp only[YB]at he;subst he;exact hq
  ·intro e he
   rcases Yy.1 he with he|he
   ·exact h.byt e he
   ·simp only[YB]at he;subst he;exact hb
 |some y=>
  simp only[Yu]
  obtain⟨h1,h2,h3⟩:=Zj2 (y++b) y hg
  rw[Yd]at h2
  refine⟨by rw[h1];exact h.nk,?_,by omega,by rw[h3];exact h.n64,?_,?_⟩
  ·rw[h.tot];omega
  ·intro e he
   rcases Zh0 he with rfl|he
   ·exact hq
   ·exact h.names e he
  ·intro e he
   rcases Zh0 he with rfl|he
   ·exact Byt.append (h.byt _ (ZeA hg)) hb
   ·exact h.byt e he
theorem DI.del{c:Int}{fs:Fs}(h:DI c fs)(q:List UInt8)(x:List Int)(hg:mget q fs=some x):DI (c-(x.length:Int)) (mdel q fs):=by
 have hs:=Zh1 (q:=q) fs
 have ht:=ZnH hg
 refine⟨h.nk.sublist (hs.map _),?_,?_,?_,fun e he=>h.names e (hs.subset he),fun e he=>h.byt e (hs.subset he)⟩
 ·rw[h.tot];omega
 ·have:=h.le;omega
 ·have:=hs.length_le;have:=h.n64;omega
def fgt(q:List UInt8)(l:List Zaa):List Zaa:=l.filter fun w=>!(w.name==q)
theorem ge0(n:Nat):decide ((0:Int)≤(n:Int))=true:=by simp
theorem wadd(i:Nat)(h:i<9000000000000000000):IntKind.wrap IntKind.i64 ((i:Int)+1)=((i+1:Nat):Int):=by rw[YG];omega
theorem Zre(s:List Zaa)(q:List UInt8)(hs:s.length≤2000000):∀(d i m:Nat),i+d=s.length→d<m→
 (Zak FF s q m (i:Int)=some (.inr ())∧∀w,w∈s.drop i→(w.name==q)=false)∨
 ∃k:Nat,Zak FF s q m (i:Int)=some (.inl (k:Int))∧i≤k∧k<s.length∧fgt q (s.drop i)=(s.drop i).take (k-i)++fgt q (s.drop (k+1)):=by
 intro d
 induction d with
 |zero=>
  intro i m h hm
  obtain⟨m,rfl⟩:∃k,m=k+1:=⟨m-1,by omega⟩
  refine .inl ⟨?_,?_⟩
  ·unfold Zak
   rw[Yi (by omega),Y7]
  ·intro w hw
   rw[Wr (by omega)]at hw
   cases hw
 |succ d ih=>
  intro i m h hm
  obtain⟨m,rfl⟩:∃k,m=k+1:=⟨m-1,by omega⟩
  have hi:i<s.length:=by omega
  have hdr:=W6 hi
  have hstep:Zak FF s q (m+1) (i:Int)=bif ((s[i]).name==q)then some (.inl (i:Int))else Zak FF s q m ((i+1:Nat):Int):=by
   conv=>lhs;unfold Zak
   rw[Y2 (by omega),Y4,ge0,Y4,cI,Y3 hi,Y0]
   unfold Zdd
   rw[Y0,wadd i (by omega)]
  rw[hstep]
  cases hc:((s[i]).name==q)with
  |true=>
   refine .inr ⟨i,rfl,Yg _,hi,?_⟩
   rw[hdr,WJ,List.take_zero,YO];unfold fgt;rw[Wt,hc];rfl
  |false=>
   rcases ih (i+1) m (by omega) (by omega)with ⟨h1,h2⟩|⟨k,h1,h2,h3,h4⟩
   ·refine .inl ⟨h1,fun w hw=>?_⟩
    rw[hdr]at hw
    rcases Yj.1 hw with rfl|hw
    ·exact hc
    ·exact h2 w hw
   ·refine .inr ⟨k,h1,by omega,h3,?_⟩
    rw[hdr,show k-i=(k-(i+1))+1 by omega,List.take_succ_cons,YH,←h4]
    unfold fgt;rw[Wt,hc];rfl
theorem Zrn{q:List UInt8}{l:List Zaa}(h:∀w,w∈l→(w.name==q)=false):fgt q l=l:=by
 unfold fgt;rw[List.filter_eq_self];intro w hw;rw[h w hw];rfl
theorem Zqa(q:List UInt8):∀(d i j m:Nat) (L:List Zaa),L.length≤2000000→j+d=L.length→i≤j→(i=j→d=0)→d<m→
 ∃(i':Nat) (L':List Zaa),Zam FF q m (i:Int) (j:Int) L=some ((i':Int),L')∧L'.length=L.length∧i'≤L'.length∧L'.take i'=L.take i++fgt q (L.drop j):=by
 intro d
 induction d with
 |zero=>
  intro i j m L hL h hij _ hm
  obtain⟨m,rfl⟩:∃k,m=k+1:=⟨m-1,by omega⟩
  refine⟨i,L,?_,rfl,by omega,?_⟩
  ·unfold Zam
   rw[Yi (by omega),Y7]
  ·rw[Wr (by omega)];simp[fgt]
 |succ d ih=>
  intro i j m L hL h hij hne hm
  obtain⟨m,rfl⟩:∃k,m=k+1:=⟨m-1,by omega⟩
  have hj:j<L.length:=by omega
  have hi:i<L.length:=by omega
  have hlt:i<j:=by
   rcases YX i j with h'|h'
   ·exact h'
   ·have:=hne (by omega);omega
  have hdr:=W6 hj
  cases hc:((L[j]).name==q)with
  |false=>
   obtain⟨i',L',h1,h2,h3,h4⟩:=ih (i+1) (j+1) m (L.set i L[j]) (by simpa using hL) (by simp;omega) (by omega) (by omega) (by omega)
   refine⟨i',L',?_,by simpa using h2,h3,?_⟩
   ·rw[←h1]
    conv=>lhs;unfold Zam
    rw[Y2 (by omega),Y4,ge0,Y4,cI,Y3 hj,Y0,Y0]
    unfold ZbW
    rw[Y0,hc,WH,Y4,ge0,Y4,cI,Y3 hi,Y0,Y0,Y0]
    simp only
    rw[wadd i (by omega),wadd j (by omega)]
   ·have e:(L.set i L[j]).drop (j+1)=L.drop (j+1):=List.drop_set_of_lt (by omega)
    rw[h4,e,hdr]
    have e2:(L.set i L[j]).take (i+1)=L.take i++[L[j]]:=by
     rw[List.take_set,W5,Y3 hi,List.set_append_right _ _ (by simp;omega)]
     simp[Wh (WB hi)]
    rw[e2,YE];congr 1;unfold fgt;rw[Wt,hc];rfl
  |true=>
   obtain⟨i',L',h1,h2,h3,h4⟩:=ih i (j+1) m L hL (by omega) (by omega) (by omega) (by omega)
   refine⟨i',L',?_,h2,h3,?_⟩
   ·rw[←h1]
    conv=>lhs;unfold Zam
    rw[Y2 (by omega),Y4,ge0,Y4,cI,Y3 hj,Y0,Y0]
    unfold ZbW;rw[Y0,hc,YP,Y7,Y0];simp only
    rw[wadd j (by omega)]
   ·rw[h4,hdr]
    congr 1;unfold fgt;rw[Wt,hc];rfl
theorem Zqb(l:List Zaa)(q:List UInt8)(hl:l.length≤2000000):Zax FF l q=some (fgt q l):=by
 unfold Zax ZaW
 rcases Zre l q hl l.length 0 FF (by omega) (by show _<4000000;omega)with ⟨h1,h2⟩|⟨k,h1,h2,h3,h4⟩
 ·rw[show Zak FF l q FF 0=some (.inr ())from h1]
  simp only[Y0,Sum.elim_inr,V1,Y4]
  rw[Zrn (by simpa using h2)]
 ·rw[show Zak FF l q FF 0=some (.inl (k:Int))from h1]
  simp only[Y0,Sum.elim_inl]
  rw[show(((k:Int)== -1)=false)from by simp,Y7,wadd k (by omega)]
  obtain⟨i',L',g1,g2,g3,g4⟩:=Zqa q (l.length-(k+1)) k (k+1) FF l hl (by omega) (by omega) (by omega) (by show _<4000000;omega)
  rw[g1,Y0];simp only[ge0,Y4,cI,Y2 g3,Y2 (Yg L'.length),Ya]
  rw[Y2 (by omega),Y4,Y2 (by omega),Y4]
  congr 1
  rw[WQ (by rw[Yw];omega),List.take_take,Nat.min_self,g4]
  simpa using h4.symm
theorem Zmr(q:List UInt8)(c:Int)(fs:Fs)(l:List Zaa)(hl:l.length≤2000000):ZbS FF q c fs l=some (c,fgt q l):=by
 unfold ZbS;rw[Zqb l q hl];rfl
theorem Zle(q:List UInt8)(c:Int)(fs:Fs)(l:List Zaa):Zb4 FF q c fs l=some (if(mget q fs).isSome then 0 else 80):=by
 unfold Zb4
 cases (mget q fs)<;>rfl
theorem ZlT{q:List UInt8}{x:List Int}{c:Int}{fs:Fs}{l:List Zaa}(h:mget q fs=some x)(hl:l.length≤2000000):ZcL FF q c fs l=some (0,c,fgt q l):=by
 unfold ZcL;rw[Zle,h];simp only[Option.isSome_some,Yh,Y0,V1,Y4,Zmr q c fs l hl]
theorem ZjS{q:List UInt8}{x:List Int}{c:Int}{fs:Fs}{l:List Zaa}(h:mget q fs=some x)(hl:l.length≤2000000)(hc: -9000000000000000000≤c-(x.length:Int)∧c-(x.length:Int)≤9000000000000000000):ZbT FF q c fs l=some (0,c-(x.length:Int),mdel q fs,fgt q l):=by
 unfold ZbT;rw[Zle,h];simp only[Option.isSome_some,Yh,Y0,V1,Y4,Zmr q _ _ l hl,Yu,Ya]
 rw[show IntKind.wrap IntKind.i64 (c-(x.length:Int))=c-(x.length:Int) by rw[YG];omega]
theorem Zrs(x:List Int)(h:x.length≤LIM):Zbq FF x=some x:=by
 unfold Zbq;rw[Y2 h,Y4]
theorem Zos{q:List UInt8}{x:List Int}{c:Int}{fs:Fs}{l:List Zaa}(h:mget q fs=some x)(hx:x.length≤LIM):Zck FF q c fs l=some (.inl (0,x)):=by
 unfold Zck;rw[Zle,h]
 simp only[Option.isSome_some,Yh,Y0,show((0:Int) != 0)=false from rfl,Y7,Y4,Yu,Zrs x hx]
theorem Zq5(q:List UInt8)(hq:q.length≤2000000):∀(d i m:Nat),i+d=q.length→d<m→Zco FF q m (i:Int)=some (.inl false)∨Zco FF q m (i:Int)=some (.inr ()):=by
 intro d
 induction d with
 |zero=>
  intro i m h hm
  obtain⟨m,rfl⟩:∃k,m=k+1:=⟨m-1,by omega⟩
  right;unfold Zco
  rw[Yi (by omega),Y7]
 |succ d ih=>
  intro i m h hm
  obtain⟨m,rfl⟩:∃k,m=k+1:=⟨m-1,by omega⟩
  have hi:=ih (i+1) m (by omega) (by omega)
  unfold Zco
  rw[Y2 (by omega),Y4,ge0,Y4,cI,Y3 (by rw[Ya];omega),Y0,Y0,wadd i (by omega)]
  generalize (List.map (fun(b:UInt8)=>(((UInt8.toNat b):Nat):Int)) q)[i]'(by rw[Ya];omega)=y
  generalize decide (y<(97:Int))=b1;generalize decide (y<(48:Int))=b2;generalize (y != (45:Int))=b3;generalize (y != (46:Int))=b4;generalize decide ((57:Int)<y)=b5;generalize decide ((122:Int)<y)=b6
  cases b1<;>cases b2<;>cases b3<;>cases b4<;>cases b5<;>cases b6<;>simp only[Y4,Y7,Y0]<;>first|exact hi|exact .inl trivial|exact .inl rfl
theorem Zpz(q:List UInt8)(hq:q.length≤2000000):∃ok,Zea FF q=some ok∧(ok=true→q.length≤16):=by
 unfold Zea
 rw[Y2 (by simp only[LIM];omega),Y4]
 rcases Zq5 q hq q.length 0 FF (by omega) (by show _<4000000;omega)with h|h
 ·rw[show Zco FF q FF 0=_ from h]
  exact⟨false,rfl,fun q=>by cases q⟩
 ·rw[show Zco FF q FF 0=_ from h]
  simp only[Y0,Sum.elim_inr]
  by_cases h1:(1:Int)≤(q.length:Int)
  ·rw[Y2 h1,Y4]
   refine⟨_,rfl,fun h=>?_⟩
   have:=YD h
   omega
  ·rw[Yi h1,Y7]
   exact⟨_,rfl,fun q=>by cases q⟩
theorem Zir(q:List UInt8)(b:List Int)(c:Int)(fs:Fs)(l:List Zaa)(hq:q.length≤2000000)(hb:b.length≤2000000)(h:DI c fs)(hl:l.length≤2000000):
 (∃e,(e=1∨e=3)∧Zby FF q b c fs l=some (e,c,fs,l)∧(Zea FF q≠some true∨1048576<tot fs+b.length∨(mget q fs=none∧64≤fs.length)))∨
 (Zby FF q b c fs l=some (0,c+(b.length:Int),mput q ((mget q fs).getD []++b) fs,l++[Zaa.mk q (b.length:Int)])∧q.length≤16∧tot fs+b.length≤1048576∧(mget q fs=none→fs.length<64)):=by
 obtain⟨ok,h1,h2⟩:=Zpz q hq
 have hc:=h.tot
 have hle:=h.le
 have h64:=h.n64
 have hw:IntKind.wrap IntKind.i64 (c+(b.length:Int))=c+(b.length:Int):=by rw[YG];omega
 have hlf:decide (fs.length+1≤LIM)=true:=Y2 (by simp only[LIM];omega)
 have hll:decide (l.length+1≤LIM)=true:=Y2 (by simp only[LIM];omega)
 unfold Zby;rw[h1,Y0]
 cases ok with
 |false=>exact .inl ⟨1,.inl rfl,by rw[WH,Y4],.inl (fun q=>by injection q with q;cases q)⟩
 |true=>
  rw[YP,Y7]
  cases hg:mget q fs with
  |some x=>
   have hx:=Zhx (ZeA hg)
   simp only at hx;simp only[Option.isSome_some,Y4,Yu,Ya,hw]
   by_cases hf:(1048576:Int)<c+(b.length:Int)
   ·rw[Y2 hf,Y4]
    exact .inl ⟨3,.inr rfl,rfl,.inr (.inl (by omega))⟩
   ·rw[Yi hf,Y7,Y2 (by simp only[LIM];omega),Y4,hlf,Y4,hll,Y4]
    exact .inr ⟨rfl,h2 rfl,by omega,fun q=>by cases q⟩
  |none=>
   simp only[Option.isSome_none,Y7,Option.getD_none,YO,Ya,hw,encF]
   by_cases hf:(64:Int)≤(fs.length:Int)
   ·rw[Y2 hf,Y4,Y0,Y4]
    exact .inl ⟨3,.inr rfl,rfl,.inr (.inr ⟨trivial,by omega⟩)⟩
   ·rw[Yi hf,Y7,Y0]
    by_cases hf2:(1048576:Int)<c+(b.length:Int)
    ·rw[Y2 hf2,Y4]
     exact .inl ⟨3,.inr rfl,rfl,.inr (.inl (by omega))⟩
    ·rw[Yi hf2,Y7,Y2 (by simp only[LIM];omega),Y4,hlf,Y4,hll,Y4]
     exact .inr ⟨rfl,h2 rfl,by omega,fun q=>by omega⟩
theorem Zmq(r:List Int)(h:r.length≤65536):ZeX FF r=some (Za8 r,0):=by
 unfold ZeX;rw[Zrg r h];rfl
theorem ZkX(r:List Int)(h:65536<r.length):ZeX FF r=some ([],1):=by
 unfold ZeX Zf5
 rw[Y2 (by omega),Y4];rfl
theorem ZlQ(r:List Int)(q:List UInt8)(n k:Int)(c:Int)(fs:Fs)(l:List Zaa)(hq:q.length≤2000000)(h:DI c fs)(hl:l.length≤2000000)(hk:0≤k∧k≤2000000):
 (∃e,e≠0∧Zcd FF r q n k c fs l=some (e,q,n,k,c,fs,l)∧(65536<r.length∨Zea FF q≠some true∨1048576<tot fs+(Za8 r).length∨(mget q fs=none∧64≤fs.length)))∨
 (Zcd FF r q n k c fs l=some (0,q,n,k+1,c+((Za8 r).length:Int),mput q ((mget q fs).getD []++Za8 r) fs,l++[Zaa.mk q ((Za8 r).length:Int)])∧r.length≤65536∧q.length≤16∧tot fs+(Za8 r).length≤1048576∧(mget q fs=none→fs.length<64)):=by
 unfold Zcd
 by_cases hr:r.length≤65536
 ·rw[Zmq r hr,Y0]
  simp only[show((0:Int) != 0)=false from rfl,Y7]
  have hp:=ZeR 9 r.length
  have hp2:(putL r.length).length≤10:=hp.2
  have hf:=ZeO r
  rcases Zir q (Za8 r) c fs l hq (by omega) h hl with ⟨e,he,h1,hwhy⟩|⟨h1,h2,h3,h4⟩
  ·rw[h1,Y0]
   refine .inl ⟨3,by decide,?_,.inr hwhy⟩
   simp only
   rw[show((e != 0)=true)from by rcases he with rfl|rfl<;>rfl,Y4]
  ·rw[h1,Y0]
   refine .inr ⟨?_,hr,h2,h3,h4⟩
   simp only[show((0:Int) != 0)=false from rfl,Y7]
   rw[show IntKind.wrap IntKind.i64 (k+1)=k+1 by rw[YG];omega]
 ·rw[ZkX r (by omega),Y0]
  exact .inl ⟨1,by decide,rfl,.inl (by omega)⟩
theorem ZpT(recs:List (List Int))(p:List Int)(hr:recs.length≤1048576):∀(d i m:Nat) (l:List (List Int)),i+d=1+recs.length→d<m→l.length=i→
 (Zcl FF recs (0,p) m (i:Int) l=some (.inr (l++((p::recs).drop i).map Za8))∧∀x,x∈(p::recs).drop i→x.length≤65536)∨
 (Zcl FF recs (0,p) m (i:Int) l=some (.inl (1,[]))∧∃x,x∈(p::recs).drop i∧65536<x.length):=by
 intro d
 induction d with
 |zero=>
  intro i m l h hm hl
  obtain⟨m,rfl⟩:∃k,m=k+1:=⟨m-1,by omega⟩
  have e:(p::recs).drop i=[]:=Wr (by rw[Yf];omega)
  left;rw[e]
  refine⟨?_,fun x hx=>by cases hx⟩
  unfold Zcl
  rw[Yi (by omega),Y7]
  simp
 |succ d ih=>
  intro i m l h hm hl
  obtain⟨m,rfl⟩:∃k,m=k+1:=⟨m-1,by omega⟩
  have hi:i<(p::recs).length:=by rw[Yf];omega
  have hdr:=W6 hi
  unfold Zcl
  rw[Y2 (by omega),Y4,ge0,Y4,cI]
  simp only[List.singleton_append]
  rw[Y3 hi,Y0,Y0,wadd i (by omega),hdr]
  by_cases hx:((p::recs)[i]).length≤65536
  ·rw[Zmq _ hx,Y0]
   simp only[show((0:Int) != 0)=false from rfl,Y7]
   rw[Y2 (by simp only[LIM];omega),Y4]
   rcases ih (i+1) m (l++[Za8 (p::recs)[i]]) (by omega) (by omega) (by simp[hl])with ⟨h1,h2⟩|⟨h1,x,h2,h3⟩
   ·refine .inl ⟨?_,fun x hx'=>?_⟩
    ·rw[h1];simp
    ·rcases Yj.1 hx' with rfl|hx'
     ·exact hx
     ·exact h2 x hx'
   ·exact .inr ⟨h1,x,Yk _ h2,h3⟩
  ·rw[ZkX _ (by omega),Y0]
   exact .inr ⟨rfl,_,Ys ..,by omega⟩
theorem Zm0(recs:List (List Int))(hr:recs.length≤1048576):
 (ZfY FF recs=some (0,Za8 (putL recs.length)::recs.map Za8)∧∀x,x∈recs→x.length≤65536)∨
 (ZfY FF recs=some (1,[])∧∃x,x∈recs∧65536<x.length):=by
 unfold ZfY
 rw[Ya,Zor recs.length (by omega),Y0,Y2 (by simp only[LIM];omega),Y4]
 have hp:=ZeR 9 recs.length
 have hp2:(putL recs.length).length≤10:=hp.2
 rcases ZpT recs (putL recs.length) hr (1+recs.length) 0 FF [] (by omega) (by show _<4000000;omega) rfl with ⟨h1,h2⟩|⟨h1,x,h2,h3⟩
 ·left
  rw[show Zcl FF recs (0,putL recs.length) FF 0 []=_ from h1]
  refine⟨?_,fun x hx=>h2 x ?_⟩
  ·simp
  ·simp[hx]
 ·right
  rw[show Zcl FF recs (0,putL recs.length) FF 0 []=_ from h1]
  refine⟨by simp,x,?_,h3⟩
  rw[V9]at h2
  rcases Yj.1 h2 with rfl|h2
  ·omega
  ·exact h2
def Tot{α:Type}(o:Option α)(P:α→Prop):Prop:=∃r,o=some r∧P r
section
variable {α β ρ σ:Type}{P:α→Prop}{Q:β→Prop}
theorem Tot.ret{r:α}(h:P r):Tot (some r) P:=⟨r,rfl,h⟩
theorem tB{x:Option β}{f:β→Option α}(h:Tot x Q)(k:∀y,x=some y→Q y→Tot (f y) P):Tot (Option.bind x f) P:=by
 obtain⟨y,rfl,hy⟩:=h;exact k y rfl hy
theorem tO{x:Option β}{f:β→Option α}{y:β}(h:x=some y)(k:Tot (f y) P):Tot (Option.bind x f) P:=by
 subst h;exact k
theorem tC{c:Bool}{a b:Option α}(h1:c=true→Tot a P)(h2:c=false→Tot b P):Tot (bif c then a else b) P:=by
 cases c with
 |true=>exact h1 rfl
 |false=>exact h2 rfl
theorem tT{p:Prop}{_:Decidable p}{a b:Option α}(h1:p→Tot a P)(h2:¬p→Tot b P):Tot (bif decide p then a else b) P:=by
 by_cases h:p
 ·rw[Y2 h];exact h1 h
 ·rw[Yi h];exact h2 h
theorem tG{p:Prop}{_:Decidable p}{a:Option α}(h:p)(k:Tot a P):Tot (bif decide p then a else none) P:=by
 rw[Y2 h];exact k
theorem tE{l:List β}{i:Nat}{f:β→Option α}(h:i<l.length)(k:∀y,l[i]? =some y→y∈l→Tot (f y) P):Tot (Option.bind l[i]? f) P:=by
 have e:=Y3 h;rw[e];exact k _ e (We h)
theorem Tot.mono{x:Option α}{R:α→Prop}(h:Tot x R)(k:∀r,R r→P r):Tot x P:=by
 obtain⟨r,h1,h2⟩:=h;exact⟨r,h1,k r h2⟩
theorem tL{x:Option (ρ⊕σ)}{f:ρ→Option α}{g:σ→Option α}{Pr:ρ→Prop}{Ps:σ→Prop}
 (h:Tot x fun o=>(∀r,o=.inl r→Pr r)∧(∀s,o=.inr s→Ps s)) (k1:∀r,Pr r→Tot (f r) P) (k2:∀s,Ps s→Tot (g s) P):Tot (Option.bind x fun o=>Sum.elim f g o) P:=by
 obtain⟨o,rfl,h1,h2⟩:=h
 cases o with
 |inl r=>exact k1 r (h1 r rfl)
 |inr s=>exact k2 s (h2 s rfl)
end
theorem loopT{σ α:Type}(L:Nat→σ→Option α)(I:σ→Prop)(μ:σ→Nat)(P:α→Prop)
 (hs:∀n s,I s→(∀s',I s'→μ s'<μ s→Tot (L n s') P)→Tot (L (n+1) s) P):∀n s,I s→μ s<n→Tot (L n s) P
 |0,s,_,h=>absurd h (W9 _)
 |n+1,s,hI,h=>hs n s hI fun s' hI' h'=>loopT L I μ P hs n s' hI' (by omega)
theorem wi64{x:Int}(h1: -9223372036854775808≤x)(h2:x≤9223372036854775807):IntKind.wrap IntKind.i64 x=x:=by rw[YG];omega
theorem w1{i:Nat}(h:i<4611686018427387904):IntKind.wrap IntKind.i64 ((i:Int)+1)=((i+1:Nat):Int):=by rw[wi64 (by omega) (by omega)];omega
structure TrOk(t:Zag):Prop where
 b0:0≤t.Base
 b1:t.Base≤1099511627776
 t0:0≤t.BaseTerm
 t1:t.BaseTerm≤1099511627776
 len:t.Entries.length≤4096
 last:t.Base+(t.Entries.length:Int)≤1099511627776
 ent:∀e,e∈t.Entries→1≤e.Term∧e.Term≤1099511627776∧e.Data.length≤4096
def entOk(e:Zab):Prop:=1≤e.Term∧e.Term≤1099511627776∧e.Data.length≤4096
theorem ZkY(term:Int)(es:List Zab)(hl:es.length≤2000000):Tot (ZdH FF term es) fun b=>b=true→∀e,e∈es→entOk e:=by
 unfold ZdH
 refine tL (Pr:=fun r=>r=false) (Ps:=fun _=>∀e,e∈es→entOk e) ?_ (fun r h=>.ret (by subst h;simp)) (fun _ h=>.ret fun _=>h)
 have:=loopT (fun n (s:Int×Nat)=>Zds FF es n s.1 (s.2:Int)) (fun s=>s.2≤es.length∧∀e,e∈es.take s.2→entOk e) (fun s=>es.length-s.2)
  (fun o=>(∀r,o=.inl r→r=false)∧(∀s,o=.inr s→∀e,e∈es→entOk e)) (by
   rintro n ⟨tm,i⟩ ⟨hi,hp⟩ k;simp only at hi hp k⊢;simp only[Zds]
   refine tT (fun h=>?_) (fun h=>.ret ⟨(fun r e=>by cases e),fun s _=>by rwa [YS (by omega)]at hp⟩)
   refine tG (by omega) (tE (by simpa using by omega) fun y hy hm=>?_)
   rw[Int.toNat_natCast]at hy
   refine tB (Q:=fun b=>b=false→entOk y) ?_ (fun b _ hb=>tC (fun _=>.ret ⟨(fun r e=>by cases e;rfl),fun s e=>by cases e⟩) fun hb'=>?_)
   ·refine tT (fun _=>.ret (by simp)) fun h1=>tT (fun _=>.ret (by simp)) fun h2=>.ret fun h3=>?_
    refine⟨?_,by omega,by have:=Wd h3;omega⟩
    split at h1<;>omega
   ·rw[w1 (by omega)]
    refine k (y.Term,i+1) ⟨by simp only;omega,?_⟩ (by simp only;omega)
    intro e he;simp only at he;rw[W5,Yy,hy]at he
    rcases he with he|he
    ·exact hp e he
    ·simp only[Option.toList_some,YB]at he;subst he;exact hb hb') FF (term,0) ⟨Yv _,by simp⟩ (by simp only[FF];omega)
 exact this
def wsum(q:List UInt8):List Zaa→Int
 | []=>0
 |w::r=>(if w.name=q then w.size else 0)+wsum q r
structure WI(fs:Fs)(l:List Zaa):Prop where
 pos:∀w,w∈l→5≤w.size
 le:∀q,wsum q l≤(((mget q fs).getD []).length:Int)
theorem Zla(q:List UInt8):∀(a b:List Zaa),wsum q (a++b)=wsum q a+wsum q b
 | [],b=>by simp[wsum]
 |w::r,b=>by simp only[YH,wsum,Zla q r b];omega
theorem ZoG{q:List UInt8}:∀{l:List Zaa},(∀w,w∈l→5≤w.size)→0≤wsum q l
 | [],_=>by simp[wsum]
 |w::r,h=>by
  have h1:=h w (Ys ..)
  have:=ZoG (q:=q) fun x hx=>h x (Yk _ hx)
  simp only[wsum];split<;>omega
theorem Zk9:∀{l:List Zaa} {w:Zaa},(∀w,w∈l→5≤w.size)→w∈l→w.size≤wsum w.name l
 | [],w,_,h=>by cases h
 |v::r,w,h,hm=>by
  have h1:=h v (Ys ..)
  have h2:∀x,x∈r→5≤x.size:=fun x hx=>h x (Yk _ hx)
  simp only[wsum]
  rcases Yj.1 hm with rfl|q
  ·have:=ZoG (q:=w.name) h2
   rw[if_pos rfl];omega
  ·have:=Zk9 h2 q
   split<;>omega
theorem ZnQ(q:List UInt8)(w:Zaa)(r:List Zaa):fgt q (w::r)=if w.name=q then fgt q r else w::fgt q r:=by
 unfold fgt;rw[Wt]
 by_cases h:w.name=q
 ·rw[if_pos h,if_neg (by simpa using h)]
 ·rw[if_neg h,if_pos (by simpa using h)]
theorem ZjC(p q:List UInt8):∀(l:List Zaa),wsum p (fgt q l)=if p=q then 0 else wsum p l
 | []=>by simp[wsum,fgt]
 |w::r=>by
  have ih:=ZjC p q r
  rw[ZnQ]
  by_cases h:w.name=q
  ·rw[if_pos h,ih]
   by_cases hp:p=q
   ·rw[if_pos hp,if_pos hp]
   ·rw[if_neg hp,if_neg hp];simp only[wsum];rw[if_neg (fun e=>hp (by rw[←e,h]))];omega
  ·rw[if_neg h]
   simp only[wsum,ih]
   by_cases hp:p=q
   ·rw[if_pos hp,if_pos hp,if_neg (fun e=>h (by rw[e,hp]))];rfl
   ·rw[if_neg hp,if_neg hp]
theorem Znf(q:List UInt8):∀{l:List Zaa},(∀w,w∈l→5≤w.size)→5*(l.length:Int)≤5*((fgt q l).length:Int)+wsum q l
 | [],_=>by simp only[wsum,Yx];omega
 |w::r,h=>by
  have h1:=h w (Ys ..)
  have:=Znf q fun x hx=>h x (Yk _ hx)
  rw[ZnQ];simp only[wsum]
  by_cases hp:w.name=q
  ·rw[if_pos hp,if_pos hp,Yf];omega
  ·rw[if_neg hp,if_neg hp,Yf,Yf];omega
theorem Zm3{q:List UInt8}{l:List Zaa}{w:Zaa}(h:w∈fgt q l):w∈l:=(Wn.1 h).1
theorem WI.nil(fs:Fs):WI fs []:=⟨(fun w hw=>by cases hw),fun q=>by simp only[wsum];omega⟩
theorem ZrA:∀(fs:Fs) (l:List Zaa),WI fs l→5*(l.length:Int)≤(tot fs:Int)
 | [],l,h=>by
  cases l with
  |nil=>simp
  |cons w r=>
   have h1:=h.pos w (Ys ..)
   have h2:=Zk9 h.pos (Ys ..)
   have h3:=h.le w.name
   simp only[mget,Option.getD_none,Yx]at h3;omega
 |(q,x)::fs,l,h=>by
  have ih:=ZrA fs (fgt q l) ⟨fun w hw=>h.pos w (Zm3 hw),fun p=>by
   rw[ZjC]
   by_cases hp:p=q
   ·rw[if_pos hp];omega
   ·have:=h.le p
    simp only[mget]at this;rw[if_neg hp]at this⊢;exact this⟩
  have h1:=Znf q h.pos
  have h2:=h.le q
  simp[mget]at h2;simp only[tot,Yp,List.sum_cons]at ih⊢;omega
theorem WI.len{c:Int}{fs:Fs}{l:List Zaa}(h:WI fs l)(hD:DI c fs):l.length≤209716:=by
 have:=ZrA fs l h
 have:=hD.le
 omega
theorem ZkR{p q:List UInt8}{x:List Int}(h:p≠q):∀(fs:Fs),mget p (mput q x fs)=mget p fs
 | []=>by simp[mput,mget,h]
 |(k,y)::r=>by
  simp only[mput];split
  ·rename_i e
   subst e;simp only[mget];rw[if_neg h,if_neg h]
  ·simp only[mget,ZkR h r]
theorem ZnF(p q:List UInt8)(x:List Int)(fs:Fs):mget p (mput q x fs)=if p=q then some x else mget p fs:=by
 by_cases h:p=q
 ·subst h;rw[if_pos rfl,Zj4]
 ·rw[if_neg h,ZkR h]
theorem WI.app{fs:Fs}{l:List Zaa}(h:WI fs l)(q:List UInt8)(b:List Int)(hb:5≤b.length):WI (mput q ((mget q fs).getD []++b) fs) (l++[Zaa.mk q (b.length:Int)]):=
 ⟨fun w hw=>by
  rcases Yy.1 hw with k|k
  ·exact h.pos w k
  ·simp only[YB]at k;subst k;simp only;omega,fun p=>by
  have:=h.le p
  rw[Zla,ZnF];simp only[wsum]
  by_cases hp:p=q
  ·subst hp;rw[if_pos rfl,if_pos rfl,Yu,Yd];omega
  ·rw[if_neg (fun e:q=p=>hp e.symm),if_neg hp];omega⟩
theorem WI.fgt{fs:Fs}{l:List Zaa}(h:WI fs l)(q:List UInt8):WI fs (fgt q l):=
 ⟨fun w hw=>h.pos w (Zm3 hw),fun p=>by
  rw[ZjC];split
  ·omega
  ·exact h.le p⟩
theorem WI.del{fs:Fs}{l:List Zaa}(h:WI fs l)(q:List UInt8):WI (mdel q fs) (Go.T.fgt q l):=
 ⟨fun w hw=>h.pos w (Zm3 hw),fun p=>by
  rw[ZjC];split
  ·omega
  ·rename_i hp
   rw[Zja hp];exact h.le p⟩
theorem DI.trunc{c:Int}{fs:Fs}(h:DI c fs)(q:List UInt8)(x:List Int)(k:Nat)(hg:mget q fs=some x)(hk:k≤x.length):DI (c-((x.length-k:Nat):Int)) (mput q (x.take k) fs):=by
 obtain⟨h1,h2,h3⟩:=Zj2 (x.take k) x hg
 rw[Yw,Wh hk]at h2
 have hm:=ZeA hg
 have:=h.le
 have:=h.tot
 refine⟨by rw[h1];exact h.nk,by omega,by omega,by rw[h3];exact h.n64,?_,?_⟩
 ·intro e he
  rcases Zh0 he with rfl|he
  ·exact h.names (q,x) hm
  ·exact h.names e he
 ·intro e he
  rcases Zh0 he with rfl|he
  ·exact fun y hy=>h.byt (q,x) hm y (YZ hy)
  ·exact h.byt e he
theorem lostL(a t:Int)(ha:5≤a)(h:a≤1048576):∃k:Nat,IntKind.wrap IntKind.i64 (a-(if(a<(if((0:Int)>t)then(0:Int)else t))then a else(if((0:Int)>t)then(0:Int)else t)))=(k:Int)∧(k:Int)≤a:=by
 have:∃z:Int,(if(a<(if((0:Int)>t)then(0:Int)else t))then a else(if((0:Int)>t)then(0:Int)else t))=z∧0≤z∧z≤a:=by
  refine⟨_,rfl,?_,?_⟩<;>(repeat' split)<;>omega
 obtain⟨z,e,h1,h2⟩:=this
 rw[e,wi64 (by omega) (by omega)]
 exact⟨(a-z).toNat,by omega,by omega⟩
theorem Zqe(keep torn:Int)(c:Int)(fs:Fs)(l:List Zaa)(hD:DI c fs)(hW:WI fs l):Tot (Zde FF keep torn c fs l) fun r=>DI r.1 r.2:=by
 unfold Zde
 have hl:=hW.len hD
 refine tB (Q:=fun r=>DI r.1 r.2) ?_ fun r _ hr=>.ret hr
 rw[Ya,wi64 (by omega) (by omega)]
 obtain⟨K,hK⟩:∃K:Nat,(if((l.length:Int)<(if((0:Int)>keep)then(0:Int)else keep))then(l.length:Int)else(if((0:Int)>keep)then(0:Int)else keep))=(K:Int):=by
  refine⟨Int.toNat _,(Int.toNat_of_nonneg ?_).symm⟩
  (repeat' split)<;>omega
 have:=loopT (fun n (s:Nat×Int×Fs)=>Zbd FF keep torn l n ((s.1:Int)-1) s.2.1 s.2.2) (fun s=>s.1≤l.length∧DI s.2.1 s.2.2∧WI s.2.2 (l.take s.1)) (fun s=>s.1) (fun r=>DI r.1 r.2) (by
  rintro n ⟨i,c,fs⟩ ⟨h1,h2,h3⟩ k;simp only at h1 h2 h3 k⊢;simp only[Zbd];rw[hK]
  refine tT (fun hi=>?_) fun _=>.ret h2
  obtain⟨j,rfl⟩:∃j,i=j+1:=⟨i-1,by omega⟩
  have hj:((j+1:Nat):Int)-1=(j:Int):=by omega
  rw[hj]at hi⊢
  refine tG (by omega) (tE (by simp;omega) fun _ _ _=>tE (by simp;omega) fun w hw hm=>?_)
  rw[Int.toNat_natCast]at hw
  have ht:l.take (j+1)=l.take j++[w]:=by rw[W5,hw];rfl
  have hwm:w∈l.take (j+1):=by rw[ht];simp
  have w5:=h3.pos w hwm
  have ws:=Zk9 h3.pos hwm
  have wl:=h3.le w.name
  have hle:=h2.le
  cases hg:mget w.name fs with
  |none=>rw[hg]at wl;simp only[Option.getD_none,Yx]at wl;omega
  |some x=>
   rw[hg,Yu]at wl
   have hxl:=Zhx (ZeA hg)
   simp only at hxl
   refine tB (Q:=fun z=>∃k:Nat,z=(k:Int)∧(k:Int)≤w.size) ?_ fun z _ hz=>?_
   ·refine tC (fun _=>.ret (lostL w.size torn w5 (by omega))) fun _=>.ret ⟨w.size.toNat,by omega,by omega⟩
   ·obtain⟨z,rfl,hz⟩:=hz
    simp only[Option.isSome_some,Y4,Yu,Ya]
    have e1:IntKind.wrap IntKind.i64 ((x.length:Int)-(z:Int))=(x.length:Int)-(z:Int):=wi64 (by omega) (by omega)
    simp only[e1]
    refine tG (by omega) (tG (by omega) (tG (by have:=h2.n64;unfold LIM;omega) ?_))
    rw[wi64 (by omega) (by omega),wi64 (by have:=h2.tot;omega) (by have:=h2.tot;omega),show((x.length:Int)-(z:Int)).toNat=x.length-z by omega]
    have hDn:=h2.trunc w.name x (x.length-z) hg (by omega)
    rw[show x.length-(x.length-z)=z by omega]at hDn
    refine k (j,_,_) ⟨by simp only;omega,hDn,⟨fun v hv=>h3.pos v (by rw[ht];exact WZ _ hv),fun p=>?_⟩⟩ (by simp only;omega)
    have hp:=h3.le p
    rw[ht,Zla]at hp;simp only[wsum]at hp;simp only;rw[ZnF]
    by_cases e:p=w.name
    ·rw[if_pos e,Yu,Yw]
     subst e;rw[if_pos rfl,hg,Yu]at hp;omega
    ·rw[if_neg e]
     rw[if_neg (fun q=>e q.symm)]at hp
     omega) FF (l.length,c,fs) ⟨Yg _,hD,by rw[Wz];exact hW⟩ (by simp only[FF];omega)
 exact this
def nameL(n:Nat):List UInt8:=logS++Lib.itoa (n:Int)
theorem Zls(n:Nat)(h:n<10000000000):(Lib.itoa (n:Int)).length≤10:=by
 rw[Zlx];exact Zk2 n 9 h
theorem ZqW(file:List UInt8)(c2 c3:Int)(FS:List (List Int))(y1:List UInt8)(fs:Fs)(hy:y1.length≤10)(hn:mget (logS++y1) fs=none)(hF:FS.length≤1048577)(hfr:∀x,x∈FS→x.length≤70000∧Byt x)(h5:∀x,x∈FS→5≤x.length):
 ∀(d i m:Nat) (c:Int) (X:List Int) (l:List Zaa),i+d=FS.length→d<m→DI c (fs++[(logS++y1,X)])→l.length≤900000+i→
 (∃c' fs' l',ZaA FF file c2 c3 (0,FS) y1 m (i:Int) c (fs++[(logS++y1,X)]) l=some (.inl (3,file,IntKind.wrap IntKind.i64 (c2+1),c3,c',fs',l'))∧(Zea FF (logS++y1)≠some true∨1048576<tot fs+X.length+(FS.drop i).flatten.length)∧(WI (fs++[(logS++y1,X)]) l→DI c' fs'∧WI fs' l'))∨
 (∃E c',ZaA FF file c2 c3 (0,FS) y1 m (i:Int) c (fs++[(logS++y1,X)]) l=some (.inr (c',fs++[(logS++y1,X++(FS.drop i).flatten)],l++E))∧(∀w,w∈E→w.name=logS++y1)∧E.length=d∧
  DI c' (fs++[(logS++y1,X++(FS.drop i).flatten)])∧(WI (fs++[(logS++y1,X)]) l→WI (fs++[(logS++y1,X++(FS.drop i).flatten)]) (l++E))):=by
 intro d
 induction d with
 |zero=>
  intro i m c X l h hm hD hl
  obtain⟨m,rfl⟩:∃k,m=k+1:=⟨m-1,by omega⟩
  right
  have e:FS.drop i=[]:=Wr (by omega)
  rw[e]
  refine⟨[],c,?_,(fun w hw=>by cases hw),rfl,by simpa using hD,fun hw=>by simpa using hw⟩
  unfold ZaA
  rw[Yi (by show¬(i:Int)<((FS.length:Nat):Int);omega),Y7]
  simp
 |succ d ih=>
  intro i m c X l h hm hD hl
  obtain⟨m,rfl⟩:∃k,m=k+1:=⟨m-1,by omega⟩
  have hi:i<FS.length:=by omega
  have hdr:=W6 hi
  have hx:=hfr _ (We hi)
  have hg:mget (logS++y1) (fs++[(logS++y1,X)])=some X:=by rw[ZiG hn];simp[mget]
  have hl4:logS.length=4:=rfl
  unfold ZaA;simp only
  rw[Y2 (by omega),Y4,ge0,Y4,cI,Y3 hi,Y0,wadd i (by omega),show([108,111,103,45]:List UInt8)=logS from rfl]
  rcases Zir (logS++y1) FS[i] c _ l (by rw[Yd];omega) (by omega) hD (by omega)with ⟨e,he,h1,hwhy⟩|⟨h1,h2,h3,h4⟩
  ·rw[h1,Y0]
   left
   refine⟨c,fs++[(logS++y1,X)],l,?_,?_,fun hw=>⟨hD,hw⟩⟩
   rotate_left
   ·rw[Zld,hg]at hwhy
    rw[hdr,List.flatten_cons,Yd]
    have htx:tot [(logS++y1,X)]=X.length:=by simp[tot]
    rw[htx]at hwhy
    rcases hwhy with q|q|⟨q,_⟩
    ·exact .inl q
    ·exact .inr (by omega)
    ·cases q
   simp only
   rw[show((e != 0)=true)from by rcases he with rfl|rfl<;>rfl,Y4]
  ·have hD2:=hD.put (logS++y1) FS[i] h2 hx.2 h3 (fun q=>by rw[hg]at q;cases q)
   rw[hg]at h1 hD2;simp only[Yu]at h1 hD2
   have hW2:WI (fs++[(logS++y1,X)]) l→WI (fs++[(logS++y1,X++FS[i])]) (l++[Zaa.mk (logS++y1) ((FS[i]).length:Int)]):=fun hw=>by
    have:=hw.app (logS++y1) FS[i] (h5 _ (We hi))
    rw[hg,Yu,Zlu _ _ hn]at this;exact this
   rw[Zlu _ _ hn]at h1 hD2;rw[h1,Y0]
   simp only[show((0:Int) != 0)=false from rfl,Y7]
   rcases ih (i+1) m _ (X++FS[i]) (l++[Zaa.mk (logS++y1) ((FS[i]).length:Int)]) (by omega) (by omega) hD2 (by simp;omega)with ⟨c',fs',l',g,hwhy,hd⟩|⟨E,c',g1,g2,g3,g4,g5⟩
   ·refine .inl ⟨c',fs',l',g,?_,fun hw=>hd (hW2 hw)⟩
    rw[hdr,List.flatten_cons,Yd];rw[Yd]at hwhy
    rcases hwhy with q|q
    ·exact .inl q
    ·exact .inr (by omega)
   ·refine .inr ⟨Zaa.mk (logS++y1) ((FS[i]).length:Int)::E,c',?_,fun w hw=>?_,by simp[g3],?_,fun hw=>?_⟩
    ·rw[g1,hdr];simp only[List.flatten_cons,YE,List.singleton_append,YH,YO]
    ·rcases Yj.1 hw with rfl|hw
     ·rfl
     ·exact g2 w hw
    ·rw[hdr,List.flatten_cons,←YE];exact g4
    ·have:=g5 (hW2 hw)
     rw[YE l]at this;rw[hdr,List.flatten_cons,←YE];exact this
theorem Zpc(file:List UInt8)(c2 c3:Int)(x0:List Int)(FS:List (List Int))(y1:List UInt8)(fs:Fs)(c:Int)(l:List Zaa)(hy:y1.length≤10)(hn:mget (logS++y1) fs=none)(hF:FS.length≤1048576)(hfr:∀x,x∈x0::FS→x.length≤70000∧Byt x)(h5:∀x,x∈x0::FS→5≤x.length)
 (hD:DI c fs) (hl:l.length≤900000):
 (∃c' fs' l',ZaA FF file c2 c3 (0,x0::FS) y1 FF 0 c fs l=some (.inl (3,file,IntKind.wrap IntKind.i64 (c2+1),c3,c',fs',l'))∧(Zea FF (logS++y1)≠some true∨1048576<tot fs+x0.length+FS.flatten.length∨64≤fs.length)∧(WI fs l→DI c' fs'∧WI fs' l'))∨
 (∃E c',ZaA FF file c2 c3 (0,x0::FS) y1 FF 0 c fs l=some (.inr (c',fs++[(logS++y1,x0++FS.flatten)],l++E))∧(∀w,w∈E→w.name=logS++y1)∧E.length≤1048577∧
  DI c' (fs++[(logS++y1,x0++FS.flatten)])∧(WI fs l→WI (fs++[(logS++y1,x0++FS.flatten)]) (l++E))):=by
 have hx:=hfr x0 (Ys ..)
 have hl4:logS.length=4:=rfl
 have hstep:ZaA FF file c2 c3 (0,x0::FS) y1 (3999999+1) 0 c fs l=Option.bind (Zby FF (logS++y1) x0 c fs l) fun y_26=>
  bif (y_26.1 != (0:Int))then some (.inl (3,file,IntKind.wrap IntKind.i64 (c2+1),c3,y_26.2.1,y_26.2.2.1,y_26.2.2.2))else ZaA FF file c2 c3 (0,x0::FS) y1 3999999 ((1:Nat):Int) y_26.2.1 y_26.2.2.1 y_26.2.2.2:=by
  conv=>lhs;unfold ZaA
  simp only
  rw[Y2 (by rw[Yf];omega),Y4,show decide ((0:Int)≤0)=true from rfl,Y4,show Int.toNat 0=0 from rfl,List.getElem?_cons_zero,Y0,show([108,111,103,45]:List UInt8)=logS from rfl,
   show IntKind.wrap IntKind.i64 ((0:Int)+1)=((1:Nat):Int) by rw[YG];rfl]
 rw[show ZaA FF file c2 c3 (0,x0::FS) y1 FF 0 c fs l=_ from hstep]
 rcases Zir (logS++y1) x0 c fs l (by rw[Yd];omega) (by omega) hD (by omega)with ⟨e,he,h1,hwhy⟩|⟨h1,h2,h3,h4⟩
 ·rw[h1,Y0]
  left
  refine⟨c,fs,l,?_,?_,fun hw=>⟨hD,hw⟩⟩
  rotate_left
  ·rcases hwhy with q|q|⟨_,q⟩
   ·exact .inl q
   ·exact .inr (.inl (by omega))
   ·exact .inr (.inr q)
  simp only
  rw[show((e != 0)=true)from by rcases he with rfl|rfl<;>rfl,Y4]
 ·have hD2:=hD.put (logS++y1) x0 h2 hx.2 h3 h4
  rw[hn]at h1 hD2;simp only[Option.getD_none,YO]at h1 hD2
  have hW2:WI fs l→WI (fs++[(logS++y1,x0)]) (l++[Zaa.mk (logS++y1) (x0.length:Int)]):=fun hw=>by
   have:=hw.app (logS++y1) x0 (h5 _ (Ys ..))
   rw[hn,Option.getD_none,YO,ZgY _ hn]at this;exact this
  rw[ZgY _ hn]at h1 hD2;rw[h1,Y0]
  simp only[show((0:Int) != 0)=false from rfl,Y7]
  rcases ZqW file c2 c3 (x0::FS) y1 fs hy hn (by rw[Yf];omega) hfr h5 FS.length 1 3999999 _ x0 (l++[Zaa.mk (logS++y1) (x0.length:Int)]) (by rw[Yf];omega) (by omega) hD2 (by simp;omega)with ⟨c',fs',l',g,hwhy,hd⟩|⟨E,c',g1,g2,g3,g4,g5⟩
  ·refine .inl ⟨c',fs',l',g,?_,fun hw=>hd (hW2 hw)⟩
   rcases hwhy with q|q
   ·exact .inl q
   ·exact .inr (.inl (by simpa using q))
  ·refine .inr ⟨Zaa.mk (logS++y1) (x0.length:Int)::E,c',?_,fun w hw=>?_,by simp[g3];omega,g4,fun hw=>by simpa using g5 (hW2 hw)⟩
   ·rw[g1];simp
   ·rcases Yj.1 hw with rfl|hw
    ·rfl
    ·exact g2 w hw
theorem ZpV(r:List Int):5≤(Za8 r).length:=by
 rw[ZeO]
 have h9:=ZeR 9 r.length
 have h10:1≤(putL r.length).length:=h9.1
 omega
def base(file:List UInt8)(fs:Fs):Fs:=if file=[]then fs else mdel file fs
theorem ZkL(recs:List (List Int))(file:List UInt8)(last:Nat)(c3 c:Int)(fs:Fs)(l:List Zaa)(hr:recs.length≤1048576)(hB:∀x,x∈recs→Byt x)(hlast:last≤999999999)(hD:DI c fs)(hl:l.length≤900000)
 (hfresh:∀n:Nat,last<n→n≤999999999→mget (nameL n) fs=none) (hfile:file=[]∨∃x,mget file fs=some x):
 (Zbl FF recs file last c3 c fs l=some ((1:Int),file,(last:Int),c3,c,fs,l)∧∃x,x∈recs∧65536<x.length)∨
 (∃c2 c' fs' l',Zbl FF recs file last c3 c fs l=some ((3:Int),file,c2,c3,c',fs',l')∧(ZbZ (nameL (last+1))=0∨Zea FF (nameL (last+1))≠some true∨1048576<tot fs+(logL recs.length recs []).length∨64≤fs.length)∧(WI fs l→DI c' fs'∧WI fs' l'))∨
 (Recs recs∧last+1≤999999999∧∃c' l',Zbl FF recs file last c3 c fs l=some ((0:Int),nameL (last+1),((last+1:Nat):Int),(recs.length:Int),c',base file fs++[(nameL (last+1),logL recs.length recs [])],l')∧
  DI c' (base file fs++[(nameL (last+1),logL recs.length recs [])])∧(∀w,w∈l'→w∈l∧w.name≠nameL (last+1)∧(file≠[]→w.name≠file))∧l'.length≤l.length∧(WI fs l→WI (base file fs++[(nameL (last+1),logL recs.length recs [])]) l')):=by
 unfold Zbl
 rcases Zm0 recs hr with ⟨h1,h2⟩|⟨h1,h2⟩
 ·right
  have hR:Recs recs:=fun x hx=>⟨h2 x hx,hB x hx⟩
  have hil:=Zls (last+1) (by omega)
  rw[h1,Y0]
  simp only[show((0:Int) != 0)=false from rfl,Y7]
  rw[wadd last (by omega)]
  unfold strconv_Itoa
  rw[Y2 (by omega),Y4,Y0,show([108,111,103,45]:List UInt8)=logS from rfl,Y2 (by show 4+_≤_;omega),Y4]
  unfold ZfX
  rw[Y2 (by rw[Yd];show 4+_≤1073741824;omega),Y4,Y0]
  by_cases hz:ZbZ (logS++Lib.itoa ((last+1:Nat):Int))=0
  ·rw[hz]
   left
   exact⟨_,c,fs,l,by rw[show(((0:Int)==0)=true)from rfl,Y4],.inl hz,fun hw=>⟨hD,hw⟩⟩
  ·rw[show(ZbZ (logS++Lib.itoa ((last+1:Nat):Int))==0)=false by simpa using hz,Y7]
   obtain⟨n,n1,n2,n3,n4⟩:=ZkQ hz
   have hn:n=last+1:=(ZnL (by omega) (by omega) (Vc n4)).symm
   subst hn
   have hnew:=hfresh (last+1) (by omega) n3
   have hp:=ZeR 9 recs.length
   have hp2:(putL recs.length).length≤10:=hp.2
   have hfr:∀x,x∈Za8 (putL recs.length)::recs.map Za8→x.length≤70000∧Byt x:=by
    intro x hx
    rcases Yj.1 hx with rfl|hx
    ·exact⟨by rw[ZeO];have h9:=ZeR 9 (putL recs.length).length;have h10:(putL (putL recs.length).length).length≤10:=h9.2;omega,ZiP _ (Zlo _ _)⟩
    ·obtain⟨r,hr',rfl⟩:=YK.1 hx
     have:=hR r hr'
     have h9:=ZeR 9 r.length
     have h10:(putL r.length).length≤10:=h9.2
     exact⟨by rw[ZeO];omega,ZiP _ this.2⟩
   have hX:Za8 (putL recs.length)++(recs.map Za8).flatten=logL recs.length recs []:=by
    unfold logL;rw[W8,List.flatMap_def]
   have h5:∀x,x∈Za8 (putL recs.length)::recs.map Za8→5≤x.length:=by
    intro x hx
    rcases Yj.1 hx with rfl|hx
    ·exact ZpV _
    ·obtain⟨r,hr',rfl⟩:=YK.1 hx
     exact ZpV _
   rcases Zpc file (last:Int) c3 (Za8 (putL recs.length)) (recs.map Za8) (Lib.itoa ((last+1:Nat):Int)) fs c l hil hnew (by simpa using hr) hfr h5 hD hl with ⟨c',fs',l',g,hwhy,hd⟩|⟨E,c',g1,g2,g3,g4,gw⟩
   ·left
    rw[g];rw[Wx,←Yd,hX]at hwhy;exact⟨_,c',fs',l',rfl,.inr hwhy,hd⟩
   ·right
    rw[hX]at g1 g4 gw;rw[g1];simp only[Y0,Sum.elim_inr,Ya]
    have hgN:mget (nameL (last+1)) (fs++[(nameL (last+1),logL recs.length recs [])])=some (logL recs.length recs []):=by rw[ZiG hnew];simp[mget]
    rw[show logS++Lib.itoa ((last+1:Nat):Int)=nameL (last+1)from rfl]at*
    rw[ZlT hgN (by rw[Yd];omega),Y0]
    simp only
    have hf0:fgt (nameL (last+1)) (l++E)=fgt (nameL (last+1)) l:=by
     unfold fgt;rw[List.filter_append]
     have:E.filter (fun w=>!(w.name==nameL (last+1)))=[]:=by
      rw[List.filter_eq_nil_iff];intro w hw;rw[g2 w hw];simp
     rw[this,W8]
    rw[hf0]
    have hW3:WI fs l→WI (fs++[(nameL (last+1),logL recs.length recs [])]) (fgt (nameL (last+1)) l):=fun hw=>by
     have:=(gw hw).fgt (nameL (last+1))
     rw[hf0]at this;exact this
    refine⟨hR,n3,?_⟩
    have hsub:∀(q:List UInt8) (k:List Zaa),∀w,w∈fgt q k→w∈k∧w.name≠q:=by
     intro q k w hw
     have:=Wn.1 hw
     exact⟨this.1,by simpa using this.2⟩
    have hlen:∀(q:List UInt8) (k:List Zaa),(fgt q k).length≤k.length:=fun q k=>WD ..
    rcases hfile with rfl|⟨x,hx⟩
    ·rw[show(!(([]:List UInt8)==[]))=false from rfl,Y7,Y0]
     refine⟨c',fgt (nameL (last+1)) l,?_,?_,fun w hw=>?_,hlen _ _,fun hw=>by simp only[base,Yh];exact hW3 hw⟩
     ·simp only[base,Yh]
     ·simp only[base,Yh];exact g4
     ·exact⟨(hsub _ _ w hw).1,(hsub _ _ w hw).2,fun q=>absurd rfl q⟩
    ·by_cases hfe:file=[]
     ·subst hfe
      rw[show(!(([]:List UInt8)==[]))=false from rfl,Y7,Y0]
      refine⟨c',fgt (nameL (last+1)) l,?_,?_,fun w hw=>?_,hlen _ _,fun hw=>by simp only[base,Yh];exact hW3 hw⟩
      ·simp only[base,Yh]
      ·simp only[base,Yh];exact g4
      ·exact⟨(hsub _ _ w hw).1,(hsub _ _ w hw).2,fun q=>absurd rfl q⟩
     ·rw[show(!(file==[]))=true by simpa using hfe,Y4]
      have hx2:=Zmd (gs:=[(nameL (last+1),logL recs.length recs [])]) hx
      have hxl:=Zhx (ZeA hx2)
      simp only at hxl
      have t1:=g4.tot
      have t2:=g4.le
      have:=hlen (nameL (last+1)) l
      rw[ZjS hx2 (by omega) (by omega),Y0]
      have hD3:=g4.del file x hx2
      rw[ZjK hx]at hD3
      refine⟨_,fgt file (fgt (nameL (last+1)) l),?_,by rw[base,if_neg hfe];exact hD3,fun w hw=>?_,by have:=hlen file (fgt (nameL (last+1)) l);omega,fun hw=>?_⟩
      ·simp only
       rw[ZjK hx,Y0,base,if_neg hfe]
      ·have a1:=hsub _ _ w hw
       have a2:=hsub _ _ w a1.1
       exact⟨a2.1,a2.2,fun _=>a1.2⟩
      ·have:=(hW3 hw).del file
       rw[ZjK hx]at this;rw[base,if_neg hfe];exact this
 ·left
  rw[h1,Y0];exact⟨rfl,h2⟩
end Go.T
