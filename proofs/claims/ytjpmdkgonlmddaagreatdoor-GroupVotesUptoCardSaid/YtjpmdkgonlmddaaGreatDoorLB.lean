import Derived.Test.YtjpmdkgonlmddaaGreatDoorLA
set_option linter.unusedVariables false
set_option linter.unusedSimpArgs false
namespace Go.T
open Go Go.Ab
abbrev Fs:=List (List UInt8×List Int)
def dV(fs:Fs):Nat:=(fs.map fun e=>e.2.length).sum
theorem oY{q:List UInt8}{x:List Int}:∀{fs:Fs},ak q fs=some x→(q,x)∈fs
 | [],h=>by cases h
 |e::r,h=>by
  unfold ak at h;split at h
  ·rename_i hq
   injection h with h
   subst hq h;exact Yl ..
  ·exact Yk _ (oY h)
theorem DC{q:List UInt8}:∀{fs:Fs},ak q fs=none↔∀e,e∈fs→e.1≠q
 | []=>by simp[ak]
 |e::r=>by
  unfold ak;split
  ·rename_i hq
   simp only[reduceCtorEq,false_iff]
   exact fun h=>h e (Yl ..) hq.symm
  ·rename_i hq
   rw[DC (fs:=r)]
   constructor
   ·intro h e' he
    rcases Yh.1 he with rfl|he
    ·exact fun q=>hq q.symm
    ·exact h e' he
   ·exact fun h e' he=>h e' (Yk _ he)
theorem QM{fs:Fs}(h:(fs.map Prod.fst).Nodup){e:List UInt8×List Int}(he:e∈fs):ak e.1 fs=some e.2:=by
 induction fs with
 |nil=>cases he
 |cons d r ih=>
  simp only[Yp,Va]at h;unfold ak
  rcases Yh.1 he with rfl|he
  ·rw[if_pos rfl]
  ·rw[if_neg,ih h.2 he]
   intro q;exact h.1 (q▸Ws he)
theorem v8{q:List UInt8}(x:List Int):∀{fs:Fs},ak q fs=none→bw q x fs=fs++[(q,x)]
 | [],_=>rfl
 |e::r,h=>by
  unfold ak at h;split at h
  ·cases h
  ·rename_i hq
   unfold bw;rw[if_neg hq,v8 x h];rfl
theorem DD{q:List UInt8}(x y:List Int):∀{fs:Fs},ak q fs=some y→(bw q x fs).map Prod.fst=fs.map Prod.fst∧dV (bw q x fs)+y.length=dV fs+x.length∧(bw q x fs).length=fs.length
 | [],h=>by cases h
 |e::r,h=>by
  unfold ak at h;unfold bw;split at h
  ·rename_i hq
   injection h with h
   rw[if_pos hq];subst hq h;simp[dV];omega
  ·rename_i hq
   rw[if_neg hq]
   obtain⟨h1,h2,h3⟩:=DD x y h
   simp only[Yp,h1,dV,List.sum_cons,Ye,h3,true_and,and_true];unfold dV at h2;omega
theorem AT{q:List UInt8}{x:List Int}{e:List UInt8×List Int}:∀{fs:Fs},e∈bw q x fs→e=(q,x)∨e∈fs
 | [],h=>by simpa[bw]using h
 |d::r,h=>by
  unfold bw at h;split at h
  ·rcases Yh.1 h with rfl|h
   ·exact .inl rfl
   ·exact .inr (Yk _ h)
  ·rcases Yh.1 h with rfl|h
   ·exact .inr (Yl ..)
   ·exact(AT h).imp id (Yk _)
theorem Lk{q:List UInt8}(x:List Int):∀(fs:Fs),ak q (bw q x fs)=some x
 | []=>by simp[bw,ak]
 |d::r=>by
  unfold bw;split
  ·simp[ak]
  ·rename_i hq
   unfold ak;rw[if_neg hq,Lk x r]
theorem wj{q:List UInt8}:∀{fs gs:Fs},ak q fs=none→ak q (fs++gs)=ak q gs
 | [],gs,_=>rfl
 |d::r,gs,h=>by
  unfold ak at h;split at h
  ·cases h
  ·rename_i hq
   rw[YJ,ak,if_neg hq,wj h]
theorem Bb{q:List UInt8}{x:List Int}:∀{fs gs:Fs},ak q fs=some x→ak q (fs++gs)=some x
 | [],gs,h=>by cases h
 |d::r,gs,h=>by
  unfold ak at h;rw[YJ,ak];split at h
  ·rename_i hq
   rw[if_pos hq,h]
  ·rename_i hq
   rw[if_neg hq,Bb h]
theorem Hi{q:List UInt8}(x y:List Int):∀{fs:Fs},ak q fs=none→bw q x (fs++[(q,y)])=fs++[(q,x)]
 | [],_=>by simp[bw]
 |d::r,h=>by
  unfold ak at h;split at h
  ·cases h
  ·rename_i hq
   rw[YJ,bw,if_neg hq,Hi x y h];rfl
theorem Hg{q:List UInt8}:∀(fs:Fs),(dI q fs).Sublist fs
 | []=>.slnil
 |d::r=>by
  unfold dI;split
  ·exact List.sublist_cons_self ..
  ·exact(Hg r).cons_cons _
theorem KS{q:List UInt8}{x:List Int}:∀{fs:Fs},ak q fs=some x→dV (dI q fs)+x.length=dV fs
 | [],h=>by cases h
 |d::r,h=>by
  unfold ak at h;unfold dI;split at h
  ·rename_i hq
   injection h with h
   rw[if_pos hq];subst h;simp[dV];omega
  ·rename_i hq
   rw[if_neg hq]
   have:=KS h
   simp only[dV,Yp,List.sum_cons]at this⊢;omega
theorem Hv{q:List UInt8}:∀{fs:Fs},(fs.map Prod.fst).Nodup→ak q (dI q fs)=none
 | [],_=>rfl
 |d::r,h=>by
  simp only[Yp,Va]at h;unfold dI;split
  ·rename_i hq
   rw[DC];intro e he hc
   exact h.1 (by rw[←hq,←hc];exact Ws he)
  ·rename_i hq
   unfold ak;rw[if_neg hq,Hv h.2]
theorem HD{p q:List UInt8}(hpq:p≠q):∀(fs:Fs),ak p (dI q fs)=ak p fs
 | []=>rfl
 |d::r=>by
  unfold dI;split
  ·rename_i hq
   rw[ak,if_neg (by rw[←hq];exact hpq)]
  ·rw[ak,ak,HD hpq r]
theorem Dn{q:List UInt8}{x:List Int}:∀{fs gs:Fs},ak q fs=some x→dI q (fs++gs)=dI q fs++gs
 | [],gs,h=>by cases h
 |d::r,gs,h=>by
  unfold ak at h;rw[YJ,dI,dI];split at h
  ·rename_i hq
   rw[if_pos hq,if_pos hq]
  ·rename_i hq
   rw[if_neg hq,if_neg hq,Dn h];rfl
structure DI(c:Int)(fs:Fs):Prop where
 nk:(fs.map Prod.fst).Nodup
 dV:c=(dV fs:Int)
 le:Go.T.dV fs≤1048576
 n64:fs.length≤64
 names:∀e,e∈fs→e.1.length≤16
 vO:∀e,e∈fs→cX e.2
theorem uo{fs:Fs}{e:List UInt8×List Int}(h:e∈fs):e.2.length≤dV fs:=by
 induction fs with
 |nil=>cases h
 |cons d r ih=>
  simp only[dV,Yp,List.sum_cons]at ih⊢
  rcases Yh.1 h with rfl|h
  ·omega
  ·have:=ih h;omega
theorem GU(a b:Fs):dV (a++b)=dV a+dV b:=by simp[dV]
theorem DI.put{c:Int}{fs:Fs}(h:DI c fs)(q:List UInt8)(b:List Int)(hq:q.length≤16)(hb:cX b)(hle:Go.T.dV fs+b.length≤1048576)(CM:ak q fs=none→fs.length<64):
 DI (c+(b.length:Int)) (bw q ((ak q fs).getD []++b) fs):=by
 cases hg:ak q fs with
 |none=>
  simp only[Option.getD_none,YL];rw[v8 b hg]
  have hn:=DC.1 hg
  refine⟨?_,?_,?_,?_,?_,?_⟩
  ·rw[Yd,List.map_singleton,Vk]
   refine⟨h.nk,by simp,?_⟩
   intro a ha b' mJ gr;simp only[Ys]at mJ
   obtain⟨e,he,rfl⟩:=YM.1 ha
   exact hn e he (gr.trans mJ)
  ·rw[GU,h.dV];simp[Go.T.dV]
  ·rw[GU];simpa[Go.T.dV]using hle
  ·have:=CM hg;simp;omega
  ·intro e he
   rcases Yw.1 he with he|he
   ·exact h.names e he
   ·simp only[Ys]at he;subst he;exact hq
  ·intro e he
   rcases Yw.1 he with he|he
   ·exact h.vO e he
   ·simp only[Ys]at he;subst he;exact hb
 |some y=>
  simp only[Yv]
  obtain⟨h1,h2,h3⟩:=DD (y++b) y hg
  rw[Ya]at h2
  refine⟨by rw[h1];exact h.nk,?_,by omega,by rw[h3];exact h.n64,?_,?_⟩
  ·rw[h.dV];omega
  ·intro e he
   rcases AT he with rfl|he
   ·exact hq
   ·exact h.names e he
  ·intro e he
   rcases AT he with rfl|he
   ·exact cX.append (h.vO _ (oY hg)) hb
   ·exact h.vO e he
theorem DI.del{c:Int}{fs:Fs}(h:DI c fs)(q:List UInt8)(x:List Int)(hg:ak q fs=some x):DI (c-(x.length:Int)) (dI q fs):=by
 have hs:=Hg (q:=q) fs
 have ht:=KS hg
 refine⟨h.nk.sublist (hs.map _),?_,?_,?_,fun e he=>h.names e (hs.subset he),fun e he=>h.vO e (hs.subset he)⟩
 ·rw[h.dV];omega
 ·have:=h.le;omega
 ·have:=hs.length_le;have:=h.n64;omega
def fx(q:List UInt8)(l:List bp):List bp:=l.filter fun w=>!(w.name==q)
theorem qg(n:Nat):decide ((0:Int)≤(n:Int))=true:=by simp
theorem kC(i:Nat)(h:i<9000000000000000000):IntKind.wrap IntKind.i64 ((i:Int)+1)=((i+1:Nat):Int):=by rw[Yz];omega
theorem Ra(s:List bp)(q:List UInt8)(hs:s.length≤2000000):∀(d i m:Nat),i+d=s.length→d<m→
 (pH FF s q m (i:Int)=some (.inr ())∧∀w,w∈s.drop i→(w.name==q)=false)∨
 ∃k:Nat,pH FF s q m (i:Int)=some (.inl (k:Int))∧i≤k∧k<s.length∧fx q (s.drop i)=(s.drop i).take (k-i)++fx q (s.drop (k+1)):=by
 intro d
 induction d with
 |zero=>
  intro i m h hm
  obtain⟨m,rfl⟩:∃k,m=k+1:=⟨m-1,by omega⟩
  refine .inl ⟨?_,?_⟩
  ·unfold pH
   rw[Ym (by omega),Y8]
  ·intro w hw
   rw[Wu (by omega)]at hw
   cases hw
 |succ d ih=>
  intro i m h hm
  obtain⟨m,rfl⟩:∃k,m=k+1:=⟨m-1,by omega⟩
  have hi:i<s.length:=by omega
  have j8:=W7 hi
  have hstep:pH FF s q (m+1) (i:Int)=bif ((s[i]).name==q)then some (.inl (i:Int))else pH FF s q m ((i+1:Nat):Int):=by
   conv=>lhs;unfold pH
   rw[Y4 (by omega),Y5,qg,Y5,cI,Y3 hi,Y1]
   unfold Ei
   rw[Y1,kC i (by omega)]
  rw[hstep]
  cases hc:((s[i]).name==q)with
  |true=>
   refine .inr ⟨i,rfl,Yg _,hi,?_⟩
   rw[j8,WN,List.take_zero,YL];unfold fx;rw[Ww,hc];rfl
  |false=>
   rcases ih (i+1) m (by omega) (by omega)with ⟨h1,h2⟩|⟨k,h1,h2,h3,h4⟩
   ·refine .inl ⟨h1,fun w hw=>?_⟩
    rw[j8]at hw
    rcases Yh.1 hw with rfl|hw
    ·exact hc
    ·exact h2 w hw
   ·refine .inr ⟨k,h1,by omega,h3,?_⟩
    rw[j8,show k-i=(k-(i+1))+1 by omega,List.take_succ_cons,YJ,←h4]
    unfold fx;rw[Ww,hc];rfl
theorem Q0{q:List UInt8}{l:List bp}(h:∀w,w∈l→(w.name==q)=false):fx q l=l:=by
 unfold fx;rw[List.filter_eq_self];intro w hw;rw[h w hw];rfl
theorem RP(q:List UInt8):∀(d i j m:Nat) (L:List bp),L.length≤2000000→j+d=L.length→i≤j→(i=j→d=0)→d<m→
 ∃(i':Nat) (L':List bp),uQ FF q m (i:Int) (j:Int) L=some ((i':Int),L')∧L'.length=L.length∧i'≤L'.length∧L'.take i'=L.take i++fx q (L.drop j):=by
 intro d
 induction d with
 |zero=>
  intro i j m L hL h OG _ hm
  obtain⟨m,rfl⟩:∃k,m=k+1:=⟨m-1,by omega⟩
  refine⟨i,L,?_,rfl,by omega,?_⟩
  ·unfold uQ
   rw[Ym (by omega),Y8]
  ·rw[Wu (by omega)];simp[fx]
 |succ d ih=>
  intro i j m L hL h OG hne hm
  obtain⟨m,rfl⟩:∃k,m=k+1:=⟨m-1,by omega⟩
  have hj:j<L.length:=by omega
  have hi:i<L.length:=by omega
  have hlt:i<j:=by
   rcases YY i j with h'|h'
   ·exact h'
   ·have:=hne (by omega);omega
  have j8:=W7 hj
  cases hc:((L[j]).name==q)with
  |false=>
   obtain⟨i',L',h1,h2,h3,h4⟩:=ih (i+1) (j+1) m (L.set i L[j]) (by simpa using hL) (by simp;omega) (by omega) (by omega) (by omega)
   refine⟨i',L',?_,by simpa using h2,h3,?_⟩
   ·rw[←h1]
    conv=>lhs;unfold uQ
    rw[Y4 (by omega),Y5,qg,Y5,cI,Y3 hj,Y1,Y1]
    unfold B0
    rw[Y1,hc,WM,Y5,qg,Y5,cI,Y3 hi,Y1,Y1,Y1]
    simp only
    rw[kC i (by omega),kC j (by omega)]
   ·have e:(L.set i L[j]).drop (j+1)=L.drop (j+1):=List.drop_set_of_lt (by omega)
    rw[h4,e,j8]
    have e2:(L.set i L[j]).take (i+1)=L.take i++[L[j]]:=by
     rw[List.take_set,Wc,Y3 hi,List.set_append_right _ _ (by simp;omega)]
     simp[W0 (WH hi)]
    rw[e2,Yq];congr 1;unfold fx;rw[Ww,hc];rfl
  |true=>
   obtain⟨i',L',h1,h2,h3,h4⟩:=ih i (j+1) m L hL (by omega) (by omega) (by omega) (by omega)
   refine⟨i',L',?_,h2,h3,?_⟩
   ·rw[←h1]
    conv=>lhs;unfold uQ
    rw[Y4 (by omega),Y5,qg,Y5,cI,Y3 hj,Y1,Y1]
    unfold B0;rw[Y1,hc,W4,Y8,Y1];simp only
    rw[kC j (by omega)]
   ·rw[h4,j8]
    congr 1;unfold fx;rw[Ww,hc];rfl
theorem RM(l:List bp)(q:List UInt8)(hl:l.length≤2000000):B7 FF l q=some (fx q l):=by
 unfold B7 Ez
 rcases Ra l q hl l.length 0 FF (by omega) (by show _<4000000;omega)with ⟨h1,h2⟩|⟨k,h1,h2,h3,h4⟩
 ·rw[show pH FF l q FF 0=some (.inr ())from h1]
  simp only[Y1,Sum.elim_inr,V4,Y5]
  rw[Q0 (by simpa using h2)]
 ·rw[show pH FF l q FF 0=some (.inl (k:Int))from h1]
  simp only[Y1,Sum.elim_inl]
  rw[show(((k:Int)== -1)=false)from by simp,Y8,kC k (by omega)]
  obtain⟨i',L',g1,g2,g3,g4⟩:=RP q (l.length-(k+1)) k (k+1) FF l hl (by omega) (by omega) (by omega) (by show _<4000000;omega)
  rw[g1,Y1];simp only[qg,Y5,cI,Y4 g3,Y4 (Yg L'.length),Yb]
  rw[Y4 (by omega),Y5,Y4 (by omega),Y5]
  congr 1
  rw[WC (by rw[YD];omega),List.take_take,Nat.min_self,g4]
  simpa using h4.symm
theorem La(q:List UInt8)(c:Int)(fs:Fs)(l:List bp)(hl:l.length≤2000000):wS FF q c fs l=some (c,fx q l):=by
 unfold wS;rw[RM l q hl];rfl
theorem G4(q:List UInt8)(c:Int)(fs:Fs)(l:List bp):wV FF q c fs l=some (if(ak q fs).isSome then 0 else 80):=by
 unfold wV
 cases (ak q fs)<;>rfl
theorem LK{q:List UInt8}{x:List Int}{c:Int}{fs:Fs}{l:List bp}(h:ak q fs=some x)(hl:l.length≤2000000):yr FF q c fs l=some (0,c,fx q l):=by
 unfold yr;rw[G4,h];simp only[Option.isSome_some,Yi,Y1,V4,Y5,La q c fs l hl]
theorem Ms{q:List UInt8}{x:List Int}{c:Int}{fs:Fs}{l:List bp}(h:ak q fs=some x)(hl:l.length≤2000000)(hc: -9000000000000000000≤c-(x.length:Int)∧c-(x.length:Int)≤9000000000000000000):wR FF q c fs l=some (0,c-(x.length:Int),dI q fs,fx q l):=by
 unfold wR;rw[G4,h];simp only[Option.isSome_some,Yi,Y1,V4,Y5,La q _ _ l hl,Yv,Yb]
 rw[show IntKind.wrap IntKind.i64 (c-(x.length:Int))=c-(x.length:Int) by rw[Yz];omega]
theorem Rv(x:List Int)(h:x.length≤bm):BY FF x=some x:=by
 unfold BY;rw[Y4 h,Y5]
theorem TV{q:List UInt8}{x:List Int}{c:Int}{fs:Fs}{l:List bp}(h:ak q fs=some x)(hx:x.length≤bm):wG FF q c fs l=some (.inl (0,x)):=by
 unfold wG;rw[G4,h]
 simp only[Option.isSome_some,Yi,Y1,show((0:Int) != 0)=false from rfl,Y8,Y5,Yv,Rv x hx]
theorem Sf(q:List UInt8)(hq:q.length≤2000000):∀(d i m:Nat),i+d=q.length→d<m→rS FF q m (i:Int)=some (.inl false)∨rS FF q m (i:Int)=some (.inr ()):=by
 intro d
 induction d with
 |zero=>
  intro i m h hm
  obtain⟨m,rfl⟩:∃k,m=k+1:=⟨m-1,by omega⟩
  right;unfold rS
  rw[Ym (by omega),Y8]
 |succ d ih=>
  intro i m h hm
  obtain⟨m,rfl⟩:∃k,m=k+1:=⟨m-1,by omega⟩
  have hi:=ih (i+1) m (by omega) (by omega)
  unfold rS
  rw[Y4 (by omega),Y5,qg,Y5,cI,Y3 (by rw[Yb];omega),Y1,Y1,kC i (by omega)]
  generalize (List.map (fun(b:UInt8)=>(((UInt8.toNat b):Nat):Int)) q)[i]'(by rw[Yb];omega)=y
  generalize decide (y<(97:Int))=b1;generalize decide (y<(48:Int))=b2;generalize (y != (45:Int))=b3;generalize (y != (46:Int))=b4;generalize decide ((57:Int)<y)=b5;generalize decide ((122:Int)<y)=b6
  cases b1<;>cases b2<;>cases b3<;>cases b4<;>cases b5<;>cases b6<;>simp only[Y5,Y8,Y1]<;>first|exact hi|exact .inl trivial|exact .inl rfl
theorem SW(q:List UInt8)(hq:q.length≤2000000):∃ok,rP FF q=some ok∧(ok=true→q.length≤16):=by
 unfold rP
 rw[Y4 (by simp only[bm];omega),Y5]
 rcases Sf q hq q.length 0 FF (by omega) (by show _<4000000;omega)with h|h
 ·rw[show rS FF q FF 0=_ from h]
  exact⟨false,rfl,fun q=>by cases q⟩
 ·rw[show rS FF q FF 0=_ from h]
  simp only[Y1,Sum.elim_inr]
  by_cases h1:(1:Int)≤(q.length:Int)
  ·rw[Y4 h1,Y5]
   refine⟨_,rfl,fun h=>?_⟩
   have:=YI h
   omega
  ·rw[Ym h1,Y8]
   exact⟨_,rfl,fun q=>by cases q⟩
theorem HP(q:List UInt8)(b:List Int)(c:Int)(fs:Fs)(l:List bp)(hq:q.length≤2000000)(hb:b.length≤2000000)(h:DI c fs)(hl:l.length≤2000000):
 (∃e,(e=1∨e=3)∧uL FF q b c fs l=some (e,c,fs,l)∧(rP FF q≠some true∨1048576<dV fs+b.length∨(ak q fs=none∧64≤fs.length)))∨
 (uL FF q b c fs l=some (0,c+(b.length:Int),bw q ((ak q fs).getD []++b) fs,l++[bp.mk q (b.length:Int)])∧q.length≤16∧dV fs+b.length≤1048576∧(ak q fs=none→fs.length<64)):=by
 obtain⟨ok,h1,h2⟩:=SW q hq
 have hc:=h.dV
 have hle:=h.le
 have CM:=h.n64
 have hw:IntKind.wrap IntKind.i64 (c+(b.length:Int))=c+(b.length:Int):=by rw[Yz];omega
 have Ja:decide (fs.length+1≤bm)=true:=Y4 (by simp only[bm];omega)
 have xr:decide (l.length+1≤bm)=true:=Y4 (by simp only[bm];omega)
 unfold uL;rw[h1,Y1]
 cases ok with
 |false=>exact .inl ⟨1,.inl rfl,by rw[WM,Y5],.inl (fun q=>by injection q with q;cases q)⟩
 |true=>
  rw[W4,Y8]
  cases hg:ak q fs with
  |some x=>
   have hx:=uo (oY hg)
   simp only at hx;simp only[Option.isSome_some,Y5,Yv,Yb,hw]
   by_cases hf:(1048576:Int)<c+(b.length:Int)
   ·rw[Y4 hf,Y5]
    exact .inl ⟨3,.inr rfl,rfl,.inr (.inl (by omega))⟩
   ·rw[Ym hf,Y8,Y4 (by simp only[bm];omega),Y5,Ja,Y5,xr,Y5]
    exact .inr ⟨rfl,h2 rfl,by omega,fun q=>by cases q⟩
  |none=>
   simp only[Option.isSome_none,Y8,Option.getD_none,YL,Yb,hw,dT]
   by_cases hf:(64:Int)≤(fs.length:Int)
   ·rw[Y4 hf,Y5,Y1,Y5]
    exact .inl ⟨3,.inr rfl,rfl,.inr (.inr ⟨trivial,by omega⟩)⟩
   ·rw[Ym hf,Y8,Y1]
    by_cases jE:(1048576:Int)<c+(b.length:Int)
    ·rw[Y4 jE,Y5]
     exact .inl ⟨3,.inr rfl,rfl,.inr (.inl (by omega))⟩
    ·rw[Ym jE,Y8,Y4 (by simp only[bm];omega),Y5,Ja,Y5,xr,Y5]
     exact .inr ⟨rfl,h2 rfl,by omega,fun q=>by omega⟩
theorem Lb(r:List Int)(h:r.length≤65536):uD FF r=some (cw r,0):=by
 unfold uD;rw[Q7 r h];rfl
theorem Mc(r:List Int)(h:65536<r.length):uD FF r=some ([],1):=by
 unfold uD xT
 rw[Y4 (by omega),Y5];rfl
theorem UP(r:List Int)(q:List UInt8)(n k:Int)(c:Int)(fs:Fs)(l:List bp)(hq:q.length≤2000000)(h:DI c fs)(hl:l.length≤2000000)(hk:0≤k∧k≤2000000):
 (∃e,e≠0∧uO FF r q n k c fs l=some (e,q,n,k,c,fs,l)∧(65536<r.length∨rP FF q≠some true∨1048576<dV fs+(cw r).length∨(ak q fs=none∧64≤fs.length)))∨
 (uO FF r q n k c fs l=some (0,q,n,k+1,c+((cw r).length:Int),bw q ((ak q fs).getD []++cw r) fs,l++[bp.mk q ((cw r).length:Int)])∧r.length≤65536∧q.length≤16∧dV fs+(cw r).length≤1048576∧(ak q fs=none→fs.length<64)):=by
 unfold uO
 by_cases hr:r.length≤65536
 ·rw[Lb r hr,Y1]
  simp only[show((0:Int) != 0)=false from rfl,Y8]
  have hp:=oZ 9 r.length
  have hp2:(bJ r.length).length≤10:=hp.2
  have hf:=rJ r
  rcases HP q (cw r) c fs l hq (by omega) h hl with ⟨e,he,h1,iH⟩|⟨h1,h2,h3,h4⟩
  ·rw[h1,Y1]
   refine .inl ⟨3,by decide,?_,.inr iH⟩
   simp only
   rw[show((e != 0)=true)from by rcases he with rfl|rfl<;>rfl,Y5]
  ·rw[h1,Y1]
   refine .inr ⟨?_,hr,h2,h3,h4⟩
   simp only[show((0:Int) != 0)=false from rfl,Y8]
   rw[show IntKind.wrap IntKind.i64 (k+1)=k+1 by rw[Yz];omega]
 ·rw[Mc r (by omega),Y1]
  exact .inl ⟨1,by decide,rfl,.inl (by omega)⟩
theorem Tb(bE:List (List Int))(p:List Int)(hr:bE.length≤1048576):∀(d i m:Nat) (l:List (List Int)),i+d=1+bE.length→d<m→l.length=i→
 (rU FF bE (0,p) m (i:Int) l=some (.inr (l++((p::bE).drop i).map cw))∧∀x,x∈(p::bE).drop i→x.length≤65536)∨
 (rU FF bE (0,p) m (i:Int) l=some (.inl (1,[]))∧∃x,x∈(p::bE).drop i∧65536<x.length):=by
 intro d
 induction d with
 |zero=>
  intro i m l h hm hl
  obtain⟨m,rfl⟩:∃k,m=k+1:=⟨m-1,by omega⟩
  have e:(p::bE).drop i=[]:=Wu (by rw[Ye];omega)
  left;rw[e]
  refine⟨?_,fun x hx=>by cases hx⟩
  unfold rU
  rw[Ym (by omega),Y8]
  simp
 |succ d ih=>
  intro i m l h hm hl
  obtain⟨m,rfl⟩:∃k,m=k+1:=⟨m-1,by omega⟩
  have hi:i<(p::bE).length:=by rw[Ye];omega
  have j8:=W7 hi
  unfold rU
  rw[Y4 (by omega),Y5,qg,Y5,cI]
  simp only[List.singleton_append]
  rw[Y3 hi,Y1,Y1,kC i (by omega),j8]
  by_cases hx:((p::bE)[i]).length≤65536
  ·rw[Lb _ hx,Y1]
   simp only[show((0:Int) != 0)=false from rfl,Y8]
   rw[Y4 (by simp only[bm];omega),Y5]
   rcases ih (i+1) m (l++[cw (p::bE)[i]]) (by omega) (by omega) (by simp[hl])with ⟨h1,h2⟩|⟨h1,x,h2,h3⟩
   ·refine .inl ⟨?_,fun x hx'=>?_⟩
    ·rw[h1];simp
    ·rcases Yh.1 hx' with rfl|hx'
     ·exact hx
     ·exact h2 x hx'
   ·exact .inr ⟨h1,x,Yk _ h2,h3⟩
  ·rw[Mc _ (by omega),Y1]
   exact .inr ⟨rfl,_,Yl ..,by omega⟩
theorem UB(bE:List (List Int))(hr:bE.length≤1048576):
 (xR FF bE=some (0,cw (bJ bE.length)::bE.map cw)∧∀x,x∈bE→x.length≤65536)∨
 (xR FF bE=some (1,[])∧∃x,x∈bE∧65536<x.length):=by
 unfold xR
 rw[Yb,TW bE.length (by omega),Y1,Y4 (by simp only[bm];omega),Y5]
 have hp:=oZ 9 bE.length
 have hp2:(bJ bE.length).length≤10:=hp.2
 rcases Tb bE (bJ bE.length) hr (1+bE.length) 0 FF [] (by omega) (by show _<4000000;omega) rfl with ⟨h1,h2⟩|⟨h1,x,h2,h3⟩
 ·left
  rw[show rU FF bE (0,bJ bE.length) FF 0 []=_ from h1]
  refine⟨?_,fun x hx=>h2 x ?_⟩
  ·simp
  ·simp[hx]
 ·right
  rw[show rU FF bE (0,bJ bE.length) FF 0 []=_ from h1]
  refine⟨by simp,x,?_,h3⟩
  rw[Vf]at h2
  rcases Yh.1 h2 with rfl|h2
  ·omega
  ·exact h2
def cr{α:Type}(o:Option α)(P:α→Prop):Prop:=∃r,o=some r∧P r
section
variable {α β ρ σ:Type}{P:α→Prop}{Q:β→Prop}
theorem cr.ret{r:α}(h:P r):cr (some r) P:=⟨r,rfl,h⟩
theorem tB{x:Option β}{f:β→Option α}(h:cr x Q)(k:∀y,x=some y→Q y→cr (f y) P):cr (Option.bind x f) P:=by
 obtain⟨y,rfl,hy⟩:=h;exact k y rfl hy
theorem tO{x:Option β}{f:β→Option α}{y:β}(h:x=some y)(k:cr (f y) P):cr (Option.bind x f) P:=by
 subst h;exact k
theorem tC{c:Bool}{a b:Option α}(h1:c=true→cr a P)(h2:c=false→cr b P):cr (bif c then a else b) P:=by
 cases c with
 |true=>exact h1 rfl
 |false=>exact h2 rfl
theorem tT{p:Prop}{_:Decidable p}{a b:Option α}(h1:p→cr a P)(h2:¬p→cr b P):cr (bif decide p then a else b) P:=by
 by_cases h:p
 ·rw[Y4 h];exact h1 h
 ·rw[Ym h];exact h2 h
theorem tG{p:Prop}{_:Decidable p}{a:Option α}(h:p)(k:cr a P):cr (bif decide p then a else none) P:=by
 rw[Y4 h];exact k
theorem tE{l:List β}{i:Nat}{f:β→Option α}(h:i<l.length)(k:∀y,l[i]? =some y→y∈l→cr (f y) P):cr (Option.bind l[i]? f) P:=by
 have e:=Y3 h;rw[e];exact k _ e (Wb h)
theorem cr.mono{x:Option α}{R:α→Prop}(h:cr x R)(k:∀r,R r→P r):cr x P:=by
 obtain⟨r,h1,h2⟩:=h;exact⟨r,h1,k r h2⟩
theorem tL{x:Option (ρ⊕σ)}{f:ρ→Option α}{g:σ→Option α}{Pr:ρ→Prop}{Ps:σ→Prop}
 (h:cr x fun o=>(∀r,o=.inl r→Pr r)∧(∀s,o=.inr s→Ps s)) (k1:∀r,Pr r→cr (f r) P) (k2:∀s,Ps s→cr (g s) P):cr (Option.bind x fun o=>Sum.elim f g o) P:=by
 obtain⟨o,rfl,h1,h2⟩:=h
 cases o with
 |inl r=>exact k1 r (h1 r rfl)
 |inr s=>exact k2 s (h2 s rfl)
end
theorem dk{σ α:Type}(L:Nat→σ→Option α)(I:σ→Prop)(μ:σ→Nat)(P:α→Prop)
 (hs:∀n s,I s→(∀s',I s'→μ s'<μ s→cr (L n s') P)→cr (L (n+1) s) P):∀n s,I s→μ s<n→cr (L n s) P
 |0,s,_,h=>absurd h (W9 _)
 |n+1,s,hI,h=>hs n s hI fun s' hI' h'=>dk L I μ P hs n s' hI' (by omega)
theorem dh{x:Int}(h1: -9223372036854775808≤x)(h2:x≤9223372036854775807):IntKind.wrap IntKind.i64 x=x:=by rw[Yz];omega
theorem w1{i:Nat}(h:i<4611686018427387904):IntKind.wrap IntKind.i64 ((i:Int)+1)=((i+1:Nat):Int):=by rw[dh (by omega) (by omega)];omega
structure iz(t:cD):Prop where
 b0:0≤t.ar
 b1:t.ar≤1099511627776
 t0:0≤t.aq
 t1:t.aq≤1099511627776
 len:t.Entries.length≤4096
 last:t.ar+(t.Entries.length:Int)≤1099511627776
 Gc:∀e,e∈t.Entries→1≤e.Term∧e.Term≤1099511627776∧e.Data.length≤4096
def mw(e:bj):Prop:=1≤e.Term∧e.Term≤1099511627776∧e.Data.length≤4096
theorem Mb(term:Int)(es:List bj)(hl:es.length≤2000000):cr (uH FF term es) fun b=>b=true→∀e,e∈es→mw e:=by
 unfold uH
 refine tL (Pr:=fun r=>r=false) (Ps:=fun _=>∀e,e∈es→mw e) ?_ (fun r h=>.ret (by subst h;simp)) (fun _ h=>.ret fun _=>h)
 have:=dk (fun n (s:Int×Nat)=>yh FF es n s.1 (s.2:Int)) (fun s=>s.2≤es.length∧∀e,e∈es.take s.2→mw e) (fun s=>es.length-s.2)
  (fun o=>(∀r,o=.inl r→r=false)∧(∀s,o=.inr s→∀e,e∈es→mw e)) (by
   rintro n ⟨tm,i⟩ ⟨hi,hp⟩ k;simp only at hi hp k⊢;simp only[yh]
   refine tT (fun h=>?_) (fun h=>.ret ⟨(fun r e=>by cases e),fun s _=>by rwa [YV (by omega)]at hp⟩)
   refine tG (by omega) (tE (by simpa using by omega) fun y hy hm=>?_)
   rw[Int.toNat_natCast]at hy
   refine tB (Q:=fun b=>b=false→mw y) ?_ (fun b _ hb=>tC (fun _=>.ret ⟨(fun r e=>by cases e;rfl),fun s e=>by cases e⟩) fun mJ=>?_)
   ·refine tT (fun _=>.ret (by simp)) fun h1=>tT (fun _=>.ret (by simp)) fun h2=>.ret fun h3=>?_
    refine⟨?_,by omega,by have:=We h3;omega⟩
    split at h1<;>omega
   ·rw[w1 (by omega)]
    refine k (y.Term,i+1) ⟨by simp only;omega,?_⟩ (by simp only;omega)
    intro e he;simp only at he;rw[Wc,Yw,hy]at he
    rcases he with he|he
    ·exact hp e he
    ·simp only[Option.toList_some,Ys]at he;subst he;exact hb mJ) FF (term,0) ⟨YC _,by simp⟩ (by simp only[FF];omega)
 exact this
def fh(q:List UInt8):List bp→Int
 | []=>0
 |w::r=>(if w.name=q then w.size else 0)+fh q r
structure WI(fs:Fs)(l:List bp):Prop where
 pos:∀w,w∈l→5≤w.size
 le:∀q,fh q l≤(((ak q fs).getD []).length:Int)
theorem G7(q:List UInt8):∀(a b:List bp),fh q (a++b)=fh q a+fh q b
 | [],b=>by simp[fh]
 |w::r,b=>by simp only[YJ,fh,G7 q r b];omega
theorem Kn{q:List UInt8}:∀{l:List bp},(∀w,w∈l→5≤w.size)→0≤fh q l
 | [],_=>by simp[fh]
 |w::r,h=>by
  have h1:=h w (Yl ..)
  have:=Kn (q:=q) fun x hx=>h x (Yk _ hx)
  simp only[fh];split<;>omega
theorem Dw:∀{l:List bp} {w:bp},(∀w,w∈l→5≤w.size)→w∈l→w.size≤fh w.name l
 | [],w,_,h=>by cases h
 |v::r,w,h,hm=>by
  have h1:=h v (Yl ..)
  have h2:∀x,x∈r→5≤x.size:=fun x hx=>h x (Yk _ hx)
  simp only[fh]
  rcases Yh.1 hm with rfl|q
  ·have:=Kn (q:=w.name) h2
   rw[if_pos rfl];omega
  ·have:=Dw h2 q
   split<;>omega
theorem KI(q:List UInt8)(w:bp)(r:List bp):fx q (w::r)=if w.name=q then fx q r else w::fx q r:=by
 unfold fx;rw[Ww]
 by_cases h:w.name=q
 ·rw[if_pos h,if_neg (by simpa using h)]
 ·rw[if_neg h,if_pos (by simpa using h)]
theorem Dv(p q:List UInt8):∀(l:List bp),fh p (fx q l)=if p=q then 0 else fh p l
 | []=>by simp[fh,fx]
 |w::r=>by
  have ih:=Dv p q r
  rw[KI]
  by_cases h:w.name=q
  ·rw[if_pos h,ih]
   by_cases hp:p=q
   ·rw[if_pos hp,if_pos hp]
   ·rw[if_neg hp,if_neg hp];simp only[fh];rw[if_neg (fun e=>hp (by rw[←e,h]))];omega
  ·rw[if_neg h]
   simp only[fh,ih]
   by_cases hp:p=q
   ·rw[if_pos hp,if_pos hp,if_neg (fun e=>h (by rw[e,hp]))];rfl
   ·rw[if_neg hp,if_neg hp]
theorem KE(q:List UInt8):∀{l:List bp},(∀w,w∈l→5≤w.size)→5*(l.length:Int)≤5*((fx q l).length:Int)+fh q l
 | [],_=>by simp only[fh,YB];omega
 |w::r,h=>by
  have h1:=h w (Yl ..)
  have:=KE q fun x hx=>h x (Yk _ hx)
  rw[KI];simp only[fh]
  by_cases hp:w.name=q
  ·rw[if_pos hp,if_pos hp,Ye];omega
  ·rw[if_neg hp,if_neg hp,Ye,Ye];omega
theorem GZ{q:List UInt8}{l:List bp}{w:bp}(h:w∈fx q l):w∈l:=(Wp.1 h).1
theorem WI.nil(fs:Fs):WI fs []:=⟨(fun w hw=>by cases hw),fun q=>by simp only[fh];omega⟩
theorem JN:∀(fs:Fs) (l:List bp),WI fs l→5*(l.length:Int)≤(dV fs:Int)
 | [],l,h=>by
  cases l with
  |nil=>simp
  |cons w r=>
   have h1:=h.pos w (Yl ..)
   have h2:=Dw h.pos (Yl ..)
   have h3:=h.le w.name
   simp only[ak,Option.getD_none,YB]at h3;omega
 |(q,x)::fs,l,h=>by
  have ih:=JN fs (fx q l) ⟨fun w hw=>h.pos w (GZ hw),fun p=>by
   rw[Dv]
   by_cases hp:p=q
   ·rw[if_pos hp];omega
   ·have:=h.le p
    simp only[ak]at this;rw[if_neg hp]at this⊢;exact this⟩
  have h1:=KE q h.pos
  have h2:=h.le q
  simp[ak]at h2;simp only[dV,Yp,List.sum_cons]at ih⊢;omega
theorem WI.len{c:Int}{fs:Fs}{l:List bp}(h:WI fs l)(hD:DI c fs):l.length≤209716:=by
 have:=JN fs l h
 have:=hD.le
 omega
theorem HF{p q:List UInt8}{x:List Int}(h:p≠q):∀(fs:Fs),ak p (bw q x fs)=ak p fs
 | []=>by simp[bw,ak,h]
 |(k,y)::r=>by
  simp only[bw];split
  ·rename_i e
   subst e;simp only[ak];rw[if_neg h,if_neg h]
  ·simp only[ak,HF h r]
theorem Hh(p q:List UInt8)(x:List Int)(fs:Fs):ak p (bw q x fs)=if p=q then some x else ak p fs:=by
 by_cases h:p=q
 ·subst h;rw[if_pos rfl,Lk]
 ·rw[if_neg h,HF h]
theorem WI.app{fs:Fs}{l:List bp}(h:WI fs l)(q:List UInt8)(b:List Int)(hb:5≤b.length):WI (bw q ((ak q fs).getD []++b) fs) (l++[bp.mk q (b.length:Int)]):=
 ⟨fun w hw=>by
  rcases Yw.1 hw with k|k
  ·exact h.pos w k
  ·simp only[Ys]at k;subst k;simp only;omega,fun p=>by
  have:=h.le p
  rw[G7,Hh];simp only[fh]
  by_cases hp:p=q
  ·subst hp;rw[if_pos rfl,if_pos rfl,Yv,Ya];omega
  ·rw[if_neg (fun e:q=p=>hp e.symm),if_neg hp];omega⟩
theorem WI.fx{fs:Fs}{l:List bp}(h:WI fs l)(q:List UInt8):WI fs (fx q l):=
 ⟨fun w hw=>h.pos w (GZ hw),fun p=>by
  rw[Dv];split
  ·omega
  ·exact h.le p⟩
theorem WI.del{fs:Fs}{l:List bp}(h:WI fs l)(q:List UInt8):WI (dI q fs) (Go.T.fx q l):=
 ⟨fun w hw=>h.pos w (GZ hw),fun p=>by
  rw[Dv];split
  ·omega
  ·rename_i hp
   rw[HD hp];exact h.le p⟩
theorem DI.yV{c:Int}{fs:Fs}(h:DI c fs)(q:List UInt8)(x:List Int)(k:Nat)(hg:ak q fs=some x)(hk:k≤x.length):DI (c-((x.length-k:Nat):Int)) (bw q (x.take k) fs):=by
 obtain⟨h1,h2,h3⟩:=DD (x.take k) x hg
 rw[YD,W0 hk]at h2
 have hm:=oY hg
 have:=h.le
 have:=h.dV
 refine⟨by rw[h1];exact h.nk,by omega,by omega,by rw[h3];exact h.n64,?_,?_⟩
 ·intro e he
  rcases AT he with rfl|he
  ·exact h.names (q,x) hm
  ·exact h.names e he
 ·intro e he
  rcases AT he with rfl|he
  ·exact fun y hy=>h.vO (q,x) hm y (YN hy)
  ·exact h.vO e he
theorem zh(a t:Int)(ha:5≤a)(h:a≤1048576):∃k:Nat,IntKind.wrap IntKind.i64 (a-(if(a<(if((0:Int)>t)then(0:Int)else t))then a else(if((0:Int)>t)then(0:Int)else t)))=(k:Int)∧(k:Int)≤a:=by
 have:∃z:Int,(if(a<(if((0:Int)>t)then(0:Int)else t))then a else(if((0:Int)>t)then(0:Int)else t))=z∧0≤z∧z≤a:=by
  refine⟨_,rfl,?_,?_⟩<;>(repeat' split)<;>omega
 obtain⟨z,e,h1,h2⟩:=this
 rw[e,dh (by omega) (by omega)]
 exact⟨(a-z).toNat,by omega,by omega⟩
def ai(n:Nat):List UInt8:=cv++Lib.itoa (n:Int)
theorem Hj(n:Nat)(h:n<10000000000):(Lib.itoa (n:Int)).length≤10:=by
 rw[Df];exact LI n 9 h
theorem Sn(file:List UInt8)(c2 c3:Int)(FS:List (List Int))(y1:List UInt8)(fs:Fs)(hy:y1.length≤10)(hn:ak (cv++y1) fs=none)(hF:FS.length≤1048577)(hfr:∀x,x∈FS→x.length≤70000∧cX x)(h5:∀x,x∈FS→5≤x.length):
 ∀(d i m:Nat) (c:Int) (X:List Int) (l:List bp),i+d=FS.length→d<m→DI c (fs++[(cv++y1,X)])→l.length≤900000+i→
 (∃c' fs' l',ot FF file c2 c3 (0,FS) y1 m (i:Int) c (fs++[(cv++y1,X)]) l=some (.inl (3,file,IntKind.wrap IntKind.i64 (c2+1),c3,c',fs',l'))∧(rP FF (cv++y1)≠some true∨1048576<dV fs+X.length+(FS.drop i).flatten.length)∧(WI (fs++[(cv++y1,X)]) l→DI c' fs'∧WI fs' l')∧(∀w,w∈l'→w∈l∨w.name=cv++y1)∧∃j,j<(FS.drop i).length∧fs'=fs++[(cv++y1,X++((FS.drop i).take j).flatten)])∨
 (∃E c',ot FF file c2 c3 (0,FS) y1 m (i:Int) c (fs++[(cv++y1,X)]) l=some (.inr (c',fs++[(cv++y1,X++(FS.drop i).flatten)],l++E))∧(∀w,w∈E→w.name=cv++y1)∧E.length=d∧
  DI c' (fs++[(cv++y1,X++(FS.drop i).flatten)])∧(WI (fs++[(cv++y1,X)]) l→WI (fs++[(cv++y1,X++(FS.drop i).flatten)]) (l++E))):=by
 intro d
 induction d with
 |zero=>
  intro i m c X l h hm hD hl
  obtain⟨m,rfl⟩:∃k,m=k+1:=⟨m-1,by omega⟩
  right
  have e:FS.drop i=[]:=Wu (by omega)
  rw[e]
  refine⟨[],c,?_,(fun w hw=>by cases hw),rfl,by simpa using hD,fun hw=>by simpa using hw⟩
  unfold ot
  rw[Ym (by show¬(i:Int)<((FS.length:Nat):Int);omega),Y8]
  simp
 |succ d ih=>
  intro i m c X l h hm hD hl
  obtain⟨m,rfl⟩:∃k,m=k+1:=⟨m-1,by omega⟩
  have hi:i<FS.length:=by omega
  have j8:=W7 hi
  have hx:=hfr _ (Wb hi)
  have hg:ak (cv++y1) (fs++[(cv++y1,X)])=some X:=by rw[wj hn];simp[ak]
  have Ox:cv.length=4:=rfl
  unfold ot;simp only
  rw[Y4 (by omega),Y5,qg,Y5,cI,Y3 hi,Y1,kC i (by omega),show([108,111,103,45]:List UInt8)=cv from rfl]
  rcases HP (cv++y1) FS[i] c _ l (by rw[Ya];omega) (by omega) hD (by omega)with ⟨e,he,h1,iH⟩|⟨h1,h2,h3,h4⟩
  ·rw[h1,Y1]
   left
   refine⟨c,fs++[(cv++y1,X)],l,?_,?_,fun hw=>⟨hD,hw⟩,fun w hw=>.inl hw,0,by rw[YH];omega,by simp⟩
   rotate_left
   ·rw[GU,hg]at iH
    rw[j8,List.flatten_cons,Ya]
    have j4:dV [(cv++y1,X)]=X.length:=by simp[dV]
    rw[j4]at iH
    rcases iH with q|q|⟨q,_⟩
    ·exact .inl q
    ·exact .inr (by omega)
    ·cases q
   simp only
   rw[show((e != 0)=true)from by rcases he with rfl|rfl<;>rfl,Y5]
  ·have sK:=hD.put (cv++y1) FS[i] h2 hx.2 h3 (fun q=>by rw[hg]at q;cases q)
   rw[hg]at h1 sK;simp only[Yv]at h1 sK
   have vK:WI (fs++[(cv++y1,X)]) l→WI (fs++[(cv++y1,X++FS[i])]) (l++[bp.mk (cv++y1) ((FS[i]).length:Int)]):=fun hw=>by
    have:=hw.app (cv++y1) FS[i] (h5 _ (Wb hi))
    rw[hg,Yv,Hi _ _ hn]at this;exact this
   rw[Hi _ _ hn]at h1 sK;rw[h1,Y1]
   simp only[show((0:Int) != 0)=false from rfl,Y8]
   rcases ih (i+1) m _ (X++FS[i]) (l++[bp.mk (cv++y1) ((FS[i]).length:Int)]) (by omega) (by omega) sK (by simp;omega)with ⟨c',fs',l',g,iH,hd,hq,j,hj,hfs⟩|⟨E,c',g1,g2,g3,g4,g5⟩
   ·refine .inl ⟨c',fs',l',g,?_,fun hw=>hd (vK hw),fun w hw=>?_,j+1,by rw[j8,Ye];omega,by rw[hfs,j8,List.take_succ_cons,List.flatten_cons,Yq]⟩
    rotate_left
    ·rcases hq w hw with q|q
     ·rcases Yw.1 q with q|q
      ·exact .inl q
      ·simp only[Ys]at q;subst q;exact .inr rfl
     ·exact .inr q
    rw[j8,List.flatten_cons,Ya];rw[Ya]at iH
    rcases iH with q|q
    ·exact .inl q
    ·exact .inr (by omega)
   ·refine .inr ⟨bp.mk (cv++y1) ((FS[i]).length:Int)::E,c',?_,fun w hw=>?_,by simp[g3],?_,fun hw=>?_⟩
    ·rw[g1,j8];simp only[List.flatten_cons,Yq,List.singleton_append,YJ,YL]
    ·rcases Yh.1 hw with rfl|hw
     ·rfl
     ·exact g2 w hw
    ·rw[j8,List.flatten_cons,←Yq];exact g4
    ·have:=g5 (vK hw)
     rw[Yq l]at this;rw[j8,List.flatten_cons,←Yq];exact this
theorem Sy(file:List UInt8)(c2 c3:Int)(x0:List Int)(FS:List (List Int))(y1:List UInt8)(fs:Fs)(c:Int)(l:List bp)(hy:y1.length≤10)(hn:ak (cv++y1) fs=none)(hF:FS.length≤1048576)(hfr:∀x,x∈x0::FS→x.length≤70000∧cX x)(h5:∀x,x∈x0::FS→5≤x.length)
 (hD:DI c fs) (hl:l.length≤900000):
 (∃c' fs' l',ot FF file c2 c3 (0,x0::FS) y1 FF 0 c fs l=some (.inl (3,file,IntKind.wrap IntKind.i64 (c2+1),c3,c',fs',l'))∧(rP FF (cv++y1)≠some true∨1048576<dV fs+x0.length+FS.flatten.length∨64≤fs.length)∧(WI fs l→DI c' fs'∧WI fs' l')∧(∀w,w∈l'→w∈l∨w.name=cv++y1)∧(fs'=fs∨∃j,j<FS.length∧fs'=fs++[(cv++y1,x0++(FS.take j).flatten)]))∨
 (∃E c',ot FF file c2 c3 (0,x0::FS) y1 FF 0 c fs l=some (.inr (c',fs++[(cv++y1,x0++FS.flatten)],l++E))∧(∀w,w∈E→w.name=cv++y1)∧E.length≤1048577∧
  DI c' (fs++[(cv++y1,x0++FS.flatten)])∧(WI fs l→WI (fs++[(cv++y1,x0++FS.flatten)]) (l++E))):=by
 have hx:=hfr x0 (Yl ..)
 have Ox:cv.length=4:=rfl
 have hstep:ot FF file c2 c3 (0,x0::FS) y1 (3999999+1) 0 c fs l=Option.bind (uL FF (cv++y1) x0 c fs l) fun mR=>
  bif (mR.1 != (0:Int))then some (.inl (3,file,IntKind.wrap IntKind.i64 (c2+1),c3,mR.2.1,mR.2.2.1,mR.2.2.2))else ot FF file c2 c3 (0,x0::FS) y1 3999999 ((1:Nat):Int) mR.2.1 mR.2.2.1 mR.2.2.2:=by
  conv=>lhs;unfold ot
  simp only
  rw[Y4 (by rw[Ye];omega),Y5,show decide ((0:Int)≤0)=true from rfl,Y5,show Int.toNat 0=0 from rfl,List.getElem?_cons_zero,Y1,show([108,111,103,45]:List UInt8)=cv from rfl,
   show IntKind.wrap IntKind.i64 ((0:Int)+1)=((1:Nat):Int) by rw[Yz];rfl]
 rw[show ot FF file c2 c3 (0,x0::FS) y1 FF 0 c fs l=_ from hstep]
 rcases HP (cv++y1) x0 c fs l (by rw[Ya];omega) (by omega) hD (by omega)with ⟨e,he,h1,iH⟩|⟨h1,h2,h3,h4⟩
 ·rw[h1,Y1]
  left
  refine⟨c,fs,l,?_,?_,fun hw=>⟨hD,hw⟩,fun w hw=>.inl hw,.inl rfl⟩
  rotate_left
  ·rcases iH with q|q|⟨_,q⟩
   ·exact .inl q
   ·exact .inr (.inl (by omega))
   ·exact .inr (.inr q)
  simp only
  rw[show((e != 0)=true)from by rcases he with rfl|rfl<;>rfl,Y5]
 ·have sK:=hD.put (cv++y1) x0 h2 hx.2 h3 h4
  rw[hn]at h1 sK;simp only[Option.getD_none,YL]at h1 sK
  have vK:WI fs l→WI (fs++[(cv++y1,x0)]) (l++[bp.mk (cv++y1) (x0.length:Int)]):=fun hw=>by
   have:=hw.app (cv++y1) x0 (h5 _ (Yl ..))
   rw[hn,Option.getD_none,YL,v8 _ hn]at this;exact this
  rw[v8 _ hn]at h1 sK;rw[h1,Y1]
  simp only[show((0:Int) != 0)=false from rfl,Y8]
  rcases Sn file c2 c3 (x0::FS) y1 fs hy hn (by rw[Ye];omega) hfr h5 FS.length 1 3999999 _ x0 (l++[bp.mk (cv++y1) (x0.length:Int)]) (by rw[Ye];omega) (by omega) sK (by simp;omega)with ⟨c',fs',l',g,iH,hd,hq,j,hj,hfs⟩|⟨E,c',g1,g2,g3,g4,g5⟩
  ·refine .inl ⟨c',fs',l',g,?_,fun hw=>hd (vK hw),fun w hw=>?_,.inr ⟨j,by simpa using hj,by rw[hfs];simp⟩⟩
   rotate_left
   ·rcases hq w hw with q|q
    ·rcases Yw.1 q with q|q
     ·exact .inl q
     ·simp only[Ys]at q;subst q;exact .inr rfl
    ·exact .inr q
   rcases iH with q|q
   ·exact .inl q
   ·exact .inr (.inl (by simpa using q))
  ·refine .inr ⟨bp.mk (cv++y1) (x0.length:Int)::E,c',?_,fun w hw=>?_,by simp[g3];omega,g4,fun hw=>by simpa using g5 (vK hw)⟩
   ·rw[g1];simp
   ·rcases Yh.1 hw with rfl|hw
    ·rfl
    ·exact g2 w hw
theorem GD(r:List Int):5≤(cw r).length:=by
 rw[rJ]
 have h9:=oZ 9 r.length
 have rA:1≤(bJ r.length).length:=h9.1
 omega
def base(file:List UInt8)(fs:Fs):Fs:=if file=[]then fs else dI file fs
theorem L2(bE:List (List Int))(file:List UInt8)(last:Nat)(c3 c:Int)(fs:Fs)(l:List bp)(hr:bE.length≤1048576)(hB:∀x,x∈bE→cX x)(mj:last≤999999999)(hD:DI c fs)(hl:l.length≤900000)
 (mW:∀n:Nat,last<n→n≤999999999→ak (ai n) fs=none) (qd:file=[]∨∃x,ak file fs=some x):
 (qQ FF bE file last c3 c fs l=some ((1:Int),file,(last:Int),c3,c,fs,l)∧∃x,x∈bE∧65536<x.length)∨
 (∃c2 c' fs' l',qQ FF bE file last c3 c fs l=some ((3:Int),file,c2,c3,c',fs',l')∧(jz (ai (last+1))=0∨rP FF (ai (last+1))≠some true∨1048576<dV fs+(bH bE.length bE []).length∨64≤fs.length)∧(WI fs l→DI c' fs'∧WI fs' l')∧(∀w,w∈l'→w∈l∨w.name=ai (last+1))∧(fs'=fs∨eu bE∧last+1≤999999999∧∃j,j<bE.length∧fs'=fs++[(ai (last+1),bH bE.length (bE.take j) [])]))∨
 (eu bE∧last+1≤999999999∧∃c' l',qQ FF bE file last c3 c fs l=some ((0:Int),ai (last+1),((last+1:Nat):Int),(bE.length:Int),c',base file fs++[(ai (last+1),bH bE.length bE [])],l')∧
  DI c' (base file fs++[(ai (last+1),bH bE.length bE [])])∧(∀w,w∈l'→w∈l∧w.name≠ai (last+1)∧(file≠[]→w.name≠file))∧l'.length≤l.length∧(WI fs l→WI (base file fs++[(ai (last+1),bH bE.length bE [])]) l')):=by
 unfold qQ
 rcases UB bE hr with ⟨h1,h2⟩|⟨h1,h2⟩
 ·right
  have hR:eu bE:=fun x hx=>⟨h2 x hx,hB x hx⟩
  have hil:=Hj (last+1) (by omega)
  rw[h1,Y1]
  simp only[show((0:Int) != 0)=false from rfl,Y8]
  rw[kC last (by omega)]
  unfold strconv_Itoa
  rw[Y4 (by omega),Y5,Y1,show([108,111,103,45]:List UInt8)=cv from rfl,Y4 (by show 4+_≤_;omega),Y5]
  unfold xS
  rw[Y4 (by rw[Ya];show 4+_≤1073741824;omega),Y5,Y1]
  by_cases hz:jz (cv++Lib.itoa ((last+1:Nat):Int))=0
  ·rw[hz]
   left
   exact⟨_,c,fs,l,by rw[show(((0:Int)==0)=true)from rfl,Y5],.inl hz,fun hw=>⟨hD,hw⟩,fun w hw=>.inl hw,.inl rfl⟩
  ·rw[show(jz (cv++Lib.itoa ((last+1:Nat):Int))==0)=false by simpa using hz,Y8]
   obtain⟨n,n1,n2,n3,n4⟩:=Mh hz
   have hn:n=last+1:=(Dm (by omega) (by omega) (WG n4)).symm
   subst hn
   have jn:=mW (last+1) (by omega) n3
   have hp:=oZ 9 bE.length
   have hp2:(bJ bE.length).length≤10:=hp.2
   have hfr:∀x,x∈cw (bJ bE.length)::bE.map cw→x.length≤70000∧cX x:=by
    intro x hx
    rcases Yh.1 hx with rfl|hx
    ·exact⟨by rw[rJ];have h9:=oZ 9 (bJ bE.length).length;have rA:(bJ (bJ bE.length).length).length≤10:=h9.2;omega,xK _ (AY _ _)⟩
    ·obtain⟨r,lT,rfl⟩:=YM.1 hx
     have:=hR r lT
     have h9:=oZ 9 r.length
     have rA:(bJ r.length).length≤10:=h9.2
     exact⟨by rw[rJ];omega,xK _ this.2⟩
   have hX:cw (bJ bE.length)++(bE.map cw).flatten=bH bE.length bE []:=by
    unfold bH;rw[YE,List.flatMap_def]
   have h5:∀x,x∈cw (bJ bE.length)::bE.map cw→5≤x.length:=by
    intro x hx
    rcases Yh.1 hx with rfl|hx
    ·exact GD _
    ·obtain⟨r,lT,rfl⟩:=YM.1 hx
     exact GD _
   rcases Sy file (last:Int) c3 (cw (bJ bE.length)) (bE.map cw) (Lib.itoa ((last+1:Nat):Int)) fs c l hil jn (by simpa using hr) hfr h5 hD hl with ⟨c',fs',l',g,iH,hd,hq,hfs⟩|⟨E,c',g1,g2,g3,g4,gw⟩
   ·left
    rw[g];rw[WB,←Ya,hX]at iH
    refine⟨_,c',fs',l',rfl,.inr iH,hd,hq,hfs.imp id fun⟨j,a,b⟩=>⟨hR,n3,j,by simpa using a,?_⟩⟩
    rw[b];unfold bH;rw[YE,List.flatMap_def,List.map_take];rfl
   ·right
    rw[hX]at g1 g4 gw;rw[g1];simp only[Y1,Sum.elim_inr,Yb]
    have OK:ak (ai (last+1)) (fs++[(ai (last+1),bH bE.length bE [])])=some (bH bE.length bE []):=by rw[wj jn];simp[ak]
    rw[show cv++Lib.itoa ((last+1:Nat):Int)=ai (last+1)from rfl]at*
    rw[LK OK (by rw[Ya];omega),Y1]
    simp only
    have FN:fx (ai (last+1)) (l++E)=fx (ai (last+1)) l:=by
     unfold fx;rw[List.filter_append]
     have:E.filter (fun w=>!(w.name==ai (last+1)))=[]:=by
      rw[List.filter_eq_nil_iff];intro w hw;rw[g2 w hw];simp
     rw[this,YE]
    rw[FN]
    have F0:WI fs l→WI (fs++[(ai (last+1),bH bE.length bE [])]) (fx (ai (last+1)) l):=fun hw=>by
     have:=(gw hw).fx (ai (last+1))
     rw[FN]at this;exact this
    refine⟨hR,n3,?_⟩
    have oN:∀(q:List UInt8) (k:List bp),∀w,w∈fx q k→w∈k∧w.name≠q:=by
     intro q k w hw
     have:=Wp.1 hw
     exact⟨this.1,by simpa using this.2⟩
    have hlen:∀(q:List UInt8) (k:List bp),(fx q k).length≤k.length:=fun q k=>List.length_filter_le ..
    rcases qd with rfl|⟨x,hx⟩
    ·rw[show(!(([]:List UInt8)==[]))=false from rfl,Y8,Y1]
     refine⟨c',fx (ai (last+1)) l,?_,?_,fun w hw=>?_,hlen _ _,fun hw=>by simp only[base,Yi];exact F0 hw⟩
     ·simp only[base,Yi]
     ·simp only[base,Yi];exact g4
     ·exact⟨(oN _ _ w hw).1,(oN _ _ w hw).2,fun q=>absurd rfl q⟩
    ·by_cases iY:file=[]
     ·subst iY
      rw[show(!(([]:List UInt8)==[]))=false from rfl,Y8,Y1]
      refine⟨c',fx (ai (last+1)) l,?_,?_,fun w hw=>?_,hlen _ _,fun hw=>by simp only[base,Yi];exact F0 hw⟩
      ·simp only[base,Yi]
      ·simp only[base,Yi];exact g4
      ·exact⟨(oN _ _ w hw).1,(oN _ _ w hw).2,fun q=>absurd rfl q⟩
     ·rw[show(!(file==[]))=true by simpa using iY,Y5]
      have iP:=Bb (gs:=[(ai (last+1),bH bE.length bE [])]) hx
      have iu:=uo (oY iP)
      simp only at iu
      have t1:=g4.dV
      have t2:=g4.le
      have:=hlen (ai (last+1)) l
      rw[Ms iP (by omega) (by omega),Y1]
      have Jr:=g4.del file x iP
      rw[Dn hx]at Jr
      refine⟨_,fx file (fx (ai (last+1)) l),?_,by rw[base,if_neg iY];exact Jr,fun w hw=>?_,by have:=hlen file (fx (ai (last+1)) l);omega,fun hw=>?_⟩
      ·simp only
       rw[Dn hx,Y1,base,if_neg iY]
      ·have a1:=oN _ _ w hw
       have a2:=oN _ _ w a1.1
       exact⟨a2.1,a2.2,fun _=>a1.2⟩
      ·have:=(F0 hw).del file
       rw[Dn hx]at this;rw[base,if_neg iY];exact this
 ·left
  rw[h1,Y1];exact⟨rfl,h2⟩
end Go.T
