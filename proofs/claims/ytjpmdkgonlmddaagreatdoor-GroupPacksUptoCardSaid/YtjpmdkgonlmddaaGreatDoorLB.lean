import Derived.Test.YtjpmdkgonlmddaaGreatDoorLA
set_option linter.defProp false
set_option linter.unusedVariables false
set_option linter.unusedSimpArgs false
namespace Go.T
open Go Go.Ab
abbrev Fs:=List (aj×aa)
def eK(fs:Fs):Nat:=(fs.map λ e=>e.2.length).sum
def qf{q:aj}{x:aa}:∀{fs:Fs},az q fs=some x→(q,x)∈fs
 | [],h=>by cases h
 |e::r,h=>by
  unfold az at h;split at h
  ·rename_i i;injection h with h;subst i h;exact Yp ..
  ·exact Yn _ (qf h)
def E7{q:aj}:∀{fs:Fs},az q fs=none↔∀e∈fs,e.1≠q
 | []=>by simp[az]
 |e::r=>by
  unfold az;split
  ·rename_i j;simp only[reduceCtorEq,false_iff];exact λ h=>h e (Yp ..) j.symm
  ·rename_i j;rw[E7 (fs:=r)];constructor
   ·intro h o i;rcases Yr.1 i with rfl|i
    ·exact λ q=>j q.symm
    ·exact h o i
   ·exact λ h o i=>h o (Yn _ i)
def UU{fs:Fs}(h:(fs.map Prod.fst).Nodup){e:aj×aa}(i:e∈fs):az e.1 fs=some e.2:=by
 induction fs with
 |nil=>cases i
 |cons d r ih=>
  simp only[Yy,VA]at h;unfold az;rcases Yr.1 i with rfl|i
  ·rw[if_pos rfl]
  ·rw[if_neg,ih h.2 i];intro q;exact h.1 (q▸WY i)
def xL{q:aj}(x:aa):∀{fs:Fs},az q fs=none→bW q x fs=fs++[(q,x)]
 | [],_=>rfl
 |e::r,h=>by
  unfold az at h;split at h
  ·cases h
  ·rename_i i;unfold bW;rw[if_neg i,xL x h];rfl
def E8{q:aj}(x y:aa):∀{fs:Fs},az q fs=some y→(bW q x fs).map Prod.fst=fs.map Prod.fst∧eK (bW q x fs)+y.length=eK fs+x.length∧(bW q x fs).length=fs.length
 | [],h=>by cases h
 |e::r,h=>by
  unfold az at h;unfold bW;split at h
  ·rename_i i;injection h with h;rw[if_pos i];subst i h;simp[eK];omega
  ·rename_i i;rw[if_neg i];obtain⟨h1,j,o⟩:=E8 x y h;simp only[Yy,h1,eK,List.sum_cons,Yh,o,true_and,VD];unfold eK at j;omega
def Cf{q:aj}{x:aa}{e:aj×aa}:∀{fs:Fs},e∈bW q x fs→e=(q,x)∨e∈fs
 | [],h=>by simpa[bW]using h
 |d::r,h=>by
  unfold bW at h;split at h
  ·rcases Yr.1 h with rfl|h
   ·exact .inl rfl
   ·exact .inr (Yn _ h)
  ·rcases Yr.1 h with rfl|h
   ·exact .inr (Yp ..)
   ·exact(Cf h).imp id (Yn _)
def Oi{q:aj}(x:aa):∀(fs:Fs),az q (bW q x fs)=some x
 | []=>by simp[bW,az]
 |d::r=>by
  unfold bW;split
  ·simp[az]
  ·rename_i i;unfold az;rw[if_neg i,Oi x r]
def xK{q:aj}:∀{fs gs:Fs},az q fs=none→az q (fs++gs)=az q gs
 | [],gs,_=>rfl
 |d::r,gs,h=>by
  unfold az at h;split at h
  ·cases h
  ·rename_i i;rw[YC,az,if_neg i,xK h]
def Cq{q:aj}{x:aa}:∀{fs gs:Fs},az q fs=some x→az q (fs++gs)=some x
 | [],gs,h=>by cases h
 |d::r,gs,h=>by
  unfold az at h;rw[YC,az];split at h
  ·rename_i i;rw[if_pos i,h]
  ·rename_i i;rw[if_neg i,Cq h]
def Jz{q:aj}(x y:aa):∀{fs:Fs},az q fs=none→bW q x (fs++[(q,y)])=fs++[(q,x)]
 | [],_=>by simp[bW]
 |d::r,h=>by
  unfold az at h;split at h
  ·cases h
  ·rename_i i;rw[YC,bW,if_neg i,Jz x y h];rfl
def Jq{q:aj}:∀(fs:Fs),(ei q fs).Sublist fs
 | []=>.slnil
 |d::r=>by
  unfold ei;split
  ·exact List.sublist_cons_self ..
  ·exact(Jq r).cons_cons _
def NP{q:aj}{x:aa}:∀{fs:Fs},az q fs=some x→eK (ei q fs)+x.length=eK fs
 | [],h=>by cases h
 |d::r,h=>by
  unfold az at h;unfold ei;split at h
  ·rename_i i;injection h with h;rw[if_pos i];subst h;simp[eK];omega
  ·rename_i i;rw[if_neg i];have:=NP h;simp only[eK,Yy,List.sum_cons]at this⊢;omega
def JR{q:aj}:∀{fs:Fs},(fs.map Prod.fst).Nodup→az q (ei q fs)=none
 | [],_=>rfl
 |d::r,h=>by
  simp only[Yy,VA]at h;unfold ei;split
  ·rename_i i;rw[E7];intro e o j;exact h.1 (by rw[←i,←j];exact WY o)
  ·rename_i i;unfold az;rw[if_neg i,JR h.2]
def J6{p q:aj}(i:p≠q):∀(fs:Fs),az p (ei q fs)=az p fs
 | []=>rfl
 |d::r=>by
  unfold ei;split
  ·rename_i j;rw[az,if_neg (by rw[←j];exact i)]
  ·rw[az,az,J6 i r]
def EW{q:aj}{x:aa}:∀{fs gs:Fs},az q fs=some x→ei q (fs++gs)=ei q fs++gs
 | [],gs,h=>by cases h
 |d::r,gs,h=>by
  unfold az at h;rw[YC,ei,ei];split at h
  ·rename_i i;rw[if_pos i,if_pos i]
  ·rename_i i;rw[if_neg i,if_neg i,EW h];rfl
structure DI(c:Int)(fs:Fs):Prop where
 nk:(fs.map Prod.fst).Nodup
 eK:c=(eK fs:Int)
 le:Go.T.eK fs≤1048576
 n64:fs.length≤64
 names:∀e∈fs,e.1.length≤16
 qD:∀e∈fs,dw e.2
def vZ{fs:Fs}{e:aj×aa}(h:e∈fs):e.2.length≤eK fs:=by
 induction fs with
 |nil=>cases h
 |cons d r ih=>
  simp only[eK,Yy,List.sum_cons]at ih⊢;rcases Yr.1 h with rfl|h
  ·omega
  ·have:=ih h;omega
def IS(a b:Fs):eK (a++b)=eK a+eK b:=by simp[eK]
def DI.put{c:Int}{fs:Fs}(h:DI c fs)(q:aj)(b:aa)(z:q.length≤16)(x:dw b)(p:Go.T.eK fs+b.length≤1048576)(u:az q fs=none→fs.length<64):
 DI (c+(b.length:Int)) (bW q ((az q fs).getD []++b) fs):=by
 cases hg:az q fs with
 |none=>
  simp only[Ve,YQ];rw[xL b hg];have hn:=E7.1 hg;refine⟨?_,?_,?_,?_,?_,?_⟩
  ·rw[Yj,List.map_singleton,VF];refine⟨h.nk,by simp,?_⟩
   intro a A b' j o;simp only[Yu]at j;obtain⟨e,i,rfl⟩:=W0.1 A;exact hn e i (o.trans j)
  ·rw[IS,h.eK];simp[Go.T.eK]
  ·rw[IS];simpa[Go.T.eK]using p
  ·have:=u hg;simp;omega
  ·intro e i;rcases YA.1 i with i|i
   ·exact h.names e i
   ·simp only[Yu]at i;subst i;exact z
  ·intro e i;rcases YA.1 i with i|i
   ·exact h.qD e i
   ·simp only[Yu]at i;subst i;exact x
 |some y=>
  simp only[YJ];obtain⟨h1,C,B⟩:=E8 (y++b) y hg;rw[Y8]at C;refine⟨by rw[h1];exact h.nk,?_,by omega,by rw[B];exact h.n64,?_,?_⟩
  ·rw[h.eK];omega
  ·intro e i;rcases Cf i with rfl|i
   ·exact z
   ·exact h.names e i
  ·intro e i;rcases Cf i with rfl|i
   ·exact dw.append (h.qD _ (qf hg)) x
   ·exact h.qD e i
def DI.del{c:Int}{fs:Fs}(h:DI c fs)(q:aj)(x:aa)(o:az q fs=some x):DI (c-(x.length:Int)) (ei q fs):=by
 have i:=Jq (q:=q) fs;have ht:=NP o;refine⟨h.nk.sublist (i.map _),?_,?_,?_,λ e j=>h.names e (i.subset j),λ e j=>h.qD e (i.subset j)⟩
 ·rw[h.eK];omega
 ·have:=h.le;omega
 ·have:=i.length_le;have:=h.n64;omega
def gu(q:aj)(l:List bP):List bP:=l.filter λ w=>!(w.name==q)
def rU(n:Nat):decide ((0:Int)≤(n:Int))=true:=by simp
def ly(i:Nat)(h:i<9000000000000000000):IntKind.wrap IntKind.i64 ((i:Int)+1)=((i+1:Nat):Int):=by rw[YF];omega
def XC(s:List bP)(q:aj)(hs:s.length≤2000000):∀(d i m:Nat),i+d=s.length→d<m→
 (qU FF s q m (i:Int)=some (.inr ())∧∀w,w∈s.drop i→(w.name==q)=false)∨
 ∃k:Nat,qU FF s q m (i:Int)=some (.inl (k:Int))∧i≤k∧k<s.length∧gu q (s.drop i)=(s.drop i).take (k-i)++gu q (s.drop (k+1)):=by
 intro d;induction d with
 |zero=>
  intro i m h y;obtain⟨m,rfl⟩:∃k,m=k+1:=⟨m-1,by omega⟩
  refine .inl ⟨?_,?_⟩
  ·unfold qU;rw[Ye (by omega),Y7]
  ·intro w p;rw[WQ (by omega)]at p
   cases p
 |succ d ih=>
  intro i m h y;obtain⟨m,rfl⟩:∃k,m=k+1:=⟨m-1,by omega⟩
  have u:i<s.length:=by omega
  have o:=Wv u;have j:qU FF s q (m+1) (i:Int)=bif ((s[i]).name==q)then some (.inl (i:Int))else qU FF s q m ((i+1:Nat):Int):=by
   conv=>lhs;unfold qU
   rw[Y2 (by omega),Y4,rU,Y4,cI,Y3 u,Y1]
   unfold FW;rw[Y1,ly i (by omega)]
  rw[j];cases hc:((s[i]).name==q)with
  |true=>
   refine .inr ⟨i,rfl,Yg _,u,?_⟩;rw[o,V7,Ul,YQ];unfold gu;rw[WN,hc];rfl
  |false=>
   rcases ih (i+1) m (by omega) (by omega)with ⟨h1,x⟩|⟨k,h1,x,z,A⟩
   ·refine .inl ⟨h1,λ w p=>?_⟩;rw[o]at p
    rcases Yr.1 p with rfl|p
    ·exact hc
    ·exact x w p
   ·refine .inr ⟨k,h1,by omega,z,?_⟩
    rw[o,show k-i=(k-(i+1))+1 by omega,List.take_succ_cons,YC,←A]
    unfold gu;rw[WN,hc];rfl
def Zb{q:aj}{l:List bP}(h:∀w∈l,(w.name==q)=false):gu q l=l:=by
 unfold gu;rw[List.filter_eq_self];intro w i;rw[h w i];rfl
def Zl(q:aj):∀(d i j m:Nat) (L:List bP),L.length≤2000000→j+d=L.length→i≤j→(i=j→d=0)→d<m→
 ∃(o:Nat) (L':List bP),wP FF q m (i:Int) (j:Int) L=some ((o:Int),L')∧L'.length=L.length∧o≤L'.length∧L'.take o=L.take i++gu q (L.drop j):=by
 intro d;induction d with
 |zero=>
  intro i j m L u h z _ F;obtain⟨m,rfl⟩:∃k,m=k+1:=⟨m-1,by omega⟩
  refine⟨i,L,?_,rfl,by omega,?_⟩
  ·unfold wP;rw[Ye (by omega),Y7]
  ·rw[WQ (by omega)];simp[gu]
 |succ d ih=>
  intro i j m L u h z C F;obtain⟨m,rfl⟩:∃k,m=k+1:=⟨m-1,by omega⟩
  have hj:j<L.length:=by omega
  have A:i<L.length:=by omega
  have H:i<j:=by
   rcases Wo i j with E|E
   ·exact E
   ·have:=C (by omega);omega
  have p:=Wv hj;cases hc:((L[j]).name==q)with
  |false=>
   obtain⟨o,L',h1,y,x,B⟩:=ih (i+1) (j+1) m (L.set i L[j]) (by simpa using u) (by simp;omega) (by omega) (by omega) (by omega)
   refine⟨o,L',?_,by simpa using y,x,?_⟩
   ·rw[←h1]
    conv=>lhs;unfold wP
    rw[Y2 (by omega),Y4,rU,Y4,cI,Y3 hj,Y1,Y1]
    unfold Dn;rw[Y1,hc,V2,Y4,rU,Y4,cI,Y3 A,Y1,Y1,Y1];simp only;rw[ly i (by omega),ly j (by omega)]
   ·have e:(L.set i L[j]).drop (j+1)=L.drop (j+1):=List.drop_set_of_lt (by omega)
    rw[B,e,p];have J:(L.set i L[j]).take (i+1)=L.take i++[L[j]]:=by
     rw[List.take_set,W8,Y3 A,List.set_append_right _ _ (by simp;omega)]
     simp[YY (Vh A)]
    rw[J,Yo];congr 1;unfold gu;rw[WN,hc];rfl
  |true=>
   obtain⟨o,L',h1,y,x,B⟩:=ih i (j+1) m L u (by omega) (by omega) (by omega) (by omega)
   refine⟨o,L',?_,y,x,?_⟩
   ·rw[←h1]
    conv=>lhs;unfold wP
    rw[Y2 (by omega),Y4,rU,Y4,cI,Y3 hj,Y1,Y1]
    unfold Dn;rw[Y1,hc,YV,Y7,Y1];simp only;rw[ly j (by omega)]
   ·rw[B,p];congr 1;unfold gu;rw[WN,hc];rfl
def Zk(l:List bP)(q:aj)(j:l.length≤2000000):Dv FF l q=some (gu q l):=by
 unfold Dv Gd;rcases XC l q j l.length 0 FF (by omega) (by show _<4000000;omega)with ⟨h1,i⟩|⟨k,h1,i,h3,h4⟩
 ·rw[show qU FF l q FF 0=some (.inr ())from h1]
  simp only[Y1,YG,WS,Y4];rw[Zb (by simpa using i)]
 ·rw[show qU FF l q FF 0=some (.inl (k:Int))from h1]
  simp only[Y1,Wr];rw[show(((k:Int)== -1)=false)from by simp,Y7,ly k (by omega)]
  obtain⟨i',L',o,g2,u,p⟩:=Zl q (l.length-(k+1)) k (k+1) FF l j (by omega) (by omega) (by omega) (by show _<4000000;omega)
  rw[o,Y1];simp only[rU,Y4,cI,Y2 u,Y2 (Yg L'.length),Ya];rw[Y2 (by omega),Y4,Y2 (by omega),Y4]
  congr 1;rw[W4 (by rw[Y9];omega),WH,Nat.min_self,p]
  simpa using h4.symm
def OA(q:aj)(c:Int)(fs:Fs)(l:List bP)(i:l.length≤2000000):yy FF q c fs l=some (c,gu q l):=by
 unfold yy;rw[Zk l q i];rfl
def Jw(q:aj)(c:Int)(fs:Fs)(l:List bP):yA FF q c fs l=some (if(az q fs).isSome then 0 else 80):=by
 unfold yA;cases (az q fs)<;>rfl
def Ov{q:aj}{x:aa}{c:Int}{fs:Fs}{l:List bP}(h:az q fs=some x)(i:l.length≤2000000):zW FF q c fs l=some (0,c,gu q l):=by
 unfold zW;rw[Jw,h];simp only[YS,Yz,Y1,WS,Y4,OA q c fs l i]
def O'{q:aj}{x:aa}{c:Int}{fs:Fs}{l:List bP}(h:az q fs=some x)(i:l.length≤2000000)(hc: -9000000000000000000≤c-(x.length:Int)∧c-(x.length:Int)≤9000000000000000000):yx FF q c fs l=some (0,c-(x.length:Int),ei q fs,gu q l):=by
 unfold yx;rw[Jw,h];simp only[YS,Yz,Y1,WS,Y4,OA q _ _ l i,YJ,Ya];rw[show IntKind.wrap IntKind.i64 (c-(x.length:Int))=c-(x.length:Int) by rw[YF];omega]
def X4(x:aa)(h:x.length≤bI):Dm FF x=some x:=by
 unfold Dm;rw[Y2 h,Y4]
def Zpz{q:aj}{x:aa}{c:Int}{fs:Fs}{l:List bP}(h:az q fs=some x)(i:x.length≤bI):yg FF q c fs l=some (.inl (0,x)):=by
 unfold yg;rw[Jw,h];simp only[YS,Yz,Y1,show((0:Int) != 0)=false from rfl,Y7,Y4,YJ,X4 x i]
def XN(q:aj)(hq:q.length≤2000000):∀(d i m:Nat),i+d=q.length→d<m→tw FF q m (i:Int)=some (.inl false)∨tw FF q m (i:Int)=some (.inr ()):=by
 intro d;induction d with
 |zero=>
  intro i m h j;obtain⟨m,rfl⟩:∃k,m=k+1:=⟨m-1,by omega⟩
  right;unfold tw;rw[Ye (by omega),Y7]
 |succ d ih=>
  intro i m h j;obtain⟨m,rfl⟩:∃k,m=k+1:=⟨m-1,by omega⟩
  have o:=ih (i+1) m (by omega) (by omega)
  unfold tw;rw[Y2 (by omega),Y4,rU,Y4,cI,Y3 (by rw[Ya];omega),Y1,Y1,ly i (by omega)]
  generalize (List.map (λ(b:UInt8)=>(((UInt8.toNat b):Nat):Int)) q)[i]'(by rw[Ya];omega)=y
  generalize decide (y<(97:Int))=b1;generalize decide (y<(48:Int))=b2;generalize (y != (45:Int))=b3;generalize (y != (46:Int))=b4;generalize decide ((57:Int)<y)=b5;generalize decide ((122:Int)<y)=b6;cases b1<;>cases b2<;>cases b3<;>cases b4<;>cases b5<;>cases b6<;>simp only[Y4,Y7,Y1]<;>first|exact o|exact .inl trivial|exact .inl rfl
def ZqG(q:aj)(i:q.length≤2000000):∃ok,tg FF q=some ok∧(ok=true→q.length≤16):=by
 unfold tg;rw[Y2 (by simp only[bI];omega),Y4]
 rcases XN q i q.length 0 FF (by omega) (by show _<4000000;omega)with h|h
 ·rw[show tw FF q FF 0=_ from h]
  exact⟨false,rfl,λ q=>by cases q⟩
 ·rw[show tw FF q FF 0=_ from h]
  simp only[Y1,YG];by_cases h1:(1:Int)≤(q.length:Int)
  ·rw[Y2 h1,Y4];refine⟨_,rfl,λ h=>?_⟩;have:=YM h
   omega
  ·rw[Ye h1,Y7];exact⟨_,rfl,λ q=>by cases q⟩
def Ka(q:aj)(b:aa)(c:Int)(fs:Fs)(l:List bP)(B:q.length≤2000000)(hb:b.length≤2000000)(h:DI c fs)(hl:l.length≤2000000):
 (∃e,(e=1∨e=3)∧wH FF q b c fs l=some (e,c,fs,l)∧(tg FF q≠some true∨1048576<eK fs+b.length∨(az q fs=none∧64≤fs.length)))∨
 (wH FF q b c fs l=some (0,c+(b.length:Int),bW q ((az q fs).getD []++b) fs,l++[bP.mk q (b.length:Int)])∧q.length≤16∧eK fs+b.length≤1048576∧(az q fs=none→fs.length<64)):=by
 obtain⟨ok,h1,y⟩:=ZqG q B;have hc:=h.eK;have C:=h.le;have A:=h.n64;have u:IntKind.wrap IntKind.i64 (c+(b.length:Int))=c+(b.length:Int):=by rw[YF];omega
 have i:decide (fs.length+1≤bI)=true:=Y2 (by simp only[bI];omega)
 have p:decide (l.length+1≤bI)=true:=Y2 (by simp only[bI];omega)
 unfold wH;rw[h1,Y1];cases ok with
 |false=>exact .inl ⟨1,.inl rfl,by rw[V2,Y4],.inl (λ q=>by injection q with q;cases q)⟩
 |true=>
  rw[YV,Y7];cases hg:az q fs with
  |some x=>
   have z:=vZ (qf hg);simp only at z;simp only[YS,Y4,YJ,Ya,u];by_cases j:(1048576:Int)<c+(b.length:Int)
   ·rw[Y2 j,Y4];exact .inl ⟨3,.inr rfl,rfl,.inr (.inl (by omega))⟩
   ·rw[Ye j,Y7,Y2 (by simp only[bI];omega),Y4,i,Y4,p,Y4]
    exact .inr ⟨rfl,y rfl,by omega,λ q=>by cases q⟩
  |none=>
   simp only[Vx,Y7,Ve,YQ,Ya,u,eD];by_cases j:(64:Int)≤(fs.length:Int)
   ·rw[Y2 j,Y4,Y1,Y4];exact .inl ⟨3,.inr rfl,rfl,.inr (.inr ⟨trivial,by omega⟩)⟩
   ·rw[Ye j,Y7,Y1];by_cases o:(1048576:Int)<c+(b.length:Int)
    ·rw[Y2 o,Y4];exact .inl ⟨3,.inr rfl,rfl,.inr (.inl (by omega))⟩
    ·rw[Ye o,Y7,Y2 (by simp only[bI];omega),Y4,i,Y4,p,Y4]
     exact .inr ⟨rfl,y rfl,by omega,λ q=>by omega⟩
def OB(r:aa)(h:r.length≤65536):wu FF r=some (dd r,0):=by
 unfold wu;rw[Xy r h];rfl
def OH(r:aa)(h:65536<r.length):wu FF r=some ([],1):=by
 unfold wu zu;rw[Y2 (by omega),Y4];rfl
def ZmC(r:aa)(q:aj)(n k:Int)(c:Int)(fs:Fs)(l:List bP)(B:q.length≤2000000)(h:DI c fs)(z:l.length≤2000000)(hk:0≤k∧k≤2000000):
 (∃e,e≠0∧wN FF r q n k c fs l=some (e,q,n,k,c,fs,l)∧(65536<r.length∨tg FF q≠some true∨1048576<eK fs+(dd r).length∨(az q fs=none∧64≤fs.length)))∨
 (wN FF r q n k c fs l=some (0,q,n,k+1,c+((dd r).length:Int),bW q ((az q fs).getD []++dd r) fs,l++[bP.mk q ((dd r).length:Int)])∧r.length≤65536∧q.length≤16∧eK fs+(dd r).length≤1048576∧(az q fs=none→fs.length<64)):=by
 unfold wN;by_cases j:r.length≤65536
 ·rw[OB r j,Y1];simp only[show((0:Int) != 0)=false from rfl,Y7]
  have x:=qg 9 r.length;have u:(bH r.length).length≤10:=x.2;have hf:=tn r;rcases Ka q (dd r) c fs l B (by omega) h z with ⟨e,p,h1,i⟩|⟨h1,y,o,A⟩
  ·rw[h1,Y1];refine .inl ⟨3,by decide,?_,.inr i⟩
   simp only;rw[show((e != 0)=true)from by rcases p with rfl|rfl<;>rfl,Y4]
  ·rw[h1,Y1];refine .inr ⟨?_,j,y,o,A⟩;simp only[show((0:Int) != 0)=false from rfl,Y7]
   rw[show IntKind.wrap IntKind.i64 (k+1)=k+1 by rw[YF];omega]
 ·rw[OH r (by omega),Y1]
  exact .inl ⟨1,by decide,rfl,.inl (by omega)⟩
def Zq3(bZ:List aa)(p:aa)(hr:bZ.length≤1048576):∀(d i m:Nat) (l:List aa),i+d=1+bZ.length→d<m→l.length=i→
 (tz FF bZ (0,p) m (i:Int) l=some (.inr (l++((p::bZ).drop i).map dd))∧∀x,x∈(p::bZ).drop i→x.length≤65536)∨
 (tz FF bZ (0,p) m (i:Int) l=some (.inl (1,[]))∧∃x,x∈(p::bZ).drop i∧65536<x.length):=by
 intro d;induction d with
 |zero=>
  intro i m l h A y;obtain⟨m,rfl⟩:∃k,m=k+1:=⟨m-1,by omega⟩
  have e:(p::bZ).drop i=[]:=WQ (by rw[Yh];omega)
  left;rw[e];refine⟨?_,λ x o=>by cases o⟩
  unfold tz;rw[Ye (by omega),Y7]
  simp
 |succ d ih=>
  intro i m l h A y;obtain⟨m,rfl⟩:∃k,m=k+1:=⟨m-1,by omega⟩
  have z:i<(p::bZ).length:=by rw[Yh];omega
  have q:=Wv z;unfold tz;rw[Y2 (by omega),Y4,rU,Y4,cI]
  simp only[V1];rw[Y3 z,Y1,Y1,ly i (by omega),q]
  by_cases o:((p::bZ)[i]).length≤65536
  ·rw[OB _ o,Y1];simp only[show((0:Int) != 0)=false from rfl,Y7]
   rw[Y2 (by simp only[bI];omega),Y4]
   rcases ih (i+1) m (l++[dd (p::bZ)[i]]) (by omega) (by omega) (by simp[y])with ⟨h1,u⟩|⟨h1,x,u,B⟩
   ·refine .inl ⟨?_,λ x j=>?_⟩
    ·rw[h1];simp
    ·rcases Yr.1 j with rfl|j
     ·exact o
     ·exact u x j
   ·exact .inr ⟨h1,x,Yn _ u,B⟩
  ·rw[OH _ (by omega),Y1]
   exact .inr ⟨rfl,_,Yp ..,by omega⟩
def ZnV(bZ:List aa)(j:bZ.length≤1048576):
 (zA FF bZ=some (0,dd (bH bZ.length)::bZ.map dd)∧∀x∈bZ,x.length≤65536)∨
 (zA FF bZ=some (1,[])∧∃x∈bZ,65536<x.length):=by
 unfold zA;rw[Ya,Zpy bZ.length (by omega),Y1,Y2 (by simp only[bI];omega),Y4]
 have p:=qg 9 bZ.length;have o:(bH bZ.length).length≤10:=p.2;rcases Zq3 bZ (bH bZ.length) j (1+bZ.length) 0 FF [] (by omega) (by show _<4000000;omega) rfl with ⟨h1,i⟩|⟨h1,x,i,h3⟩
 ·left;rw[show tz FF bZ (0,bH bZ.length) FF 0 []=_ from h1]
  refine⟨?_,λ x q=>i x ?_⟩
  ·simp
  ·simp[q]
 ·right;rw[show tz FF bZ (0,bH bZ.length) FF 0 []=_ from h1]
  refine⟨by simp,x,?_,h3⟩
  rw[VK]at i;rcases Yr.1 i with rfl|i
  ·omega
  ·exact i
def dh{α:Type}(o:Option α)(P:α→Prop):Prop:=∃r,o=some r∧P r
section
variable {α β ρ σ:Type}{P:α→Prop}{Q:β→Prop}
def dh.ret{r:α}(h:P r):dh (some r) P:=⟨r,rfl,h⟩
def bh{x:Option β}{f:β→Option α}(h:dh x Q)(k:∀y,x=some y→Q y→dh (f y) P):dh (Option.bind x f) P:=by
 obtain⟨y,rfl,i⟩:=h;exact k y rfl i
def bJ{x:Option β}{f:β→Option α}{y:β}(h:x=some y)(k:dh (f y) P):dh (Option.bind x f) P:=by
 subst h;exact k
def bu{c:Bool}{a b:Option α}(h1:c=true→dh a P)(i:c=false→dh b P):dh (bif c then a else b) P:=by
 cases c with
 |true=>exact h1 rfl
 |false=>exact i rfl
def cq{p:Prop}{_:Decidable p}{a b:Option α}(h1:p→dh a P)(i:¬p→dh b P):dh (bif decide p then a else b) P:=by
 by_cases h:p
 ·rw[Y2 h];exact h1 h
 ·rw[Ye h];exact i h
def bV{p:Prop}{_:Decidable p}{a:Option α}(h:p)(k:dh a P):dh (bif decide p then a else none) P:=by
 rw[Y2 h];exact k
def cM{l:List β}{i:Nat}{f:β→Option α}(h:i<l.length)(k:∀y,l[i]? =some y→y∈l→dh (f y) P):dh (Option.bind l[i]? f) P:=by
 have e:=Y3 h;rw[e];exact k _ e (Wz h)
def dh.mono{x:Option α}{R:α→Prop}(h:dh x R)(k:∀r,R r→P r):dh x P:=by
 obtain⟨r,h1,i⟩:=h;exact⟨r,h1,k r i⟩
def jm{x:Option (ρ⊕σ)}{f:ρ→Option α}{g:σ→Option α}{Pr:ρ→Prop}{Ps:σ→Prop}
 (h:dh x λ o=>(∀r,o=.inl r→Pr r)∧(∀s,o=.inr s→Ps s)) (k1:∀r,Pr r→dh (f r) P) (k2:∀s,Ps s→dh (g s) P):dh (Option.bind x λ o=>Sum.elim f g o) P:=by
 obtain⟨o,rfl,h1,i⟩:=h;cases o with
 |inl r=>exact k1 r (h1 r rfl)
 |inr s=>exact k2 s (i s rfl)
end
def dM{σ α:Type}(L:Nat→σ→Option α)(I:σ→Prop)(μ:σ→Nat)(P:α→Prop)
 (o:∀n s,I s→(∀i,I i→μ i<μ s→dh (L n i) P)→dh (L (n+1) s) P):∀n s,I s→μ s<n→dh (L n s) P
 |0,s,_,h=>absurd h (We _)
 |n+1,s,hI,h=>o n s hI λ i j h'=>dM L I μ P o n i j (by omega)
def dj{x:Int}(h1: -9223372036854775808≤x)(h2:x≤9223372036854775807):IntKind.wrap IntKind.i64 x=x:=by rw[YF];omega
def w1{i:Nat}(h:i<4611686018427387904):IntKind.wrap IntKind.i64 ((i:Int)+1)=((i+1:Nat):Int):=by rw[dj (by omega) (by omega)];omega
structure lb(t:ca):Prop where
 b0:0≤t.an
 b1:t.an≤1099511627776
 t0:0≤t.au
 t1:t.au≤1099511627776
 len:t.Entries.length≤4096
 last:t.an+(t.Entries.length:Int)≤1099511627776
 mQ:∀e∈t.Entries,1≤e.Term∧e.Term≤1099511627776∧e.Data.length≤4096
def nt(e:bx):Prop:=1≤e.Term∧e.Term≤1099511627776∧e.Data.length≤4096
def OG(p:Int)(es:List bx)(hl:es.length≤2000000):dh (wE FF p es) λ b=>b=true→∀e∈es,nt e:=by
 unfold wE;refine jm (Pr:=λ r=>r=false) (Ps:=λ _=>∀e∈es,nt e) ?_ (λ r h=>.ret (by subst h;simp)) (λ _ h=>.ret λ _=>h)
 have:=dM (λ n (s:Int×Nat)=>zS FF es n s.1 (s.2:Int)) (λ s=>s.2≤es.length∧∀e,e∈es.take s.2→nt e) (λ s=>es.length-s.2)
  (λ o=>(∀r,o=.inl r→r=false)∧(∀s,o=.inr s→∀e∈es,nt e)) (by
   rintro n ⟨tm,i⟩ ⟨B,q⟩ k;simp only at B q k⊢;simp only[zS];refine cq (λ h=>?_) (λ h=>.ret ⟨(λ r e=>by cases e),λ s _=>by rwa [Yk (by omega)]at q⟩)
   refine bV (by omega) (cM (by simpa using by omega) λ y x hm=>?_)
   rw[Yf]at x;refine bh (Q:=λ b=>b=false→nt y) ?_ (λ b _ A=>bu (λ _=>.ret ⟨(λ r e=>by cases e;rfl),λ s e=>by cases e⟩) λ u=>?_)
   ·refine cq (λ _=>.ret (by simp)) λ h1=>cq (λ _=>.ret (by simp)) λ h2=>.ret λ z=>?_
    refine⟨?_,by omega,by have:=Wb z;omega⟩
    split at h1<;>omega
   ·rw[w1 (by omega)]
    refine k (y.Term,i+1) ⟨by simp only;omega,?_⟩ (by simp only;omega)
    intro e j;simp only at j;rw[W8,YA,x]at j;rcases j with j|j
    ·exact q e j
    ·simp only[VB,Yu]at j;subst j;exact A u) FF (p,0) ⟨YL _,by simp⟩ (by simp only[FF];omega)
 exact this
def fQ(q:aj):List bP→Int
 | []=>0
 |w::r=>(if w.name=q then w.size else 0)+fQ q r
structure WI(fs:Fs)(l:List bP):Prop where
 pos:∀w∈l,5≤w.size
 le:∀q,fQ q l≤(((az q fs).getD []).length:Int)
def Jy(q:aj):∀(a b:List bP),fQ q (a++b)=fQ q a+fQ q b
 | [],b=>by simp[fQ]
 |w::r,b=>by simp only[YC,fQ,Jy q r b];omega
def MX{q:aj}:∀{l:List bP},(∀w∈l,5≤w.size)→0≤fQ q l
 | [],_=>by simp[fQ]
 |w::r,h=>by
  have h1:=h w (Yp ..);have:=MX (q:=q) λ x i=>h x (Yn _ i);simp only[fQ];split<;>omega
def Fb:∀{l:List bP} {w:bP},(∀w∈l,5≤w.size)→w∈l→w.size≤fQ w.name l
 | [],w,_,h=>by cases h
 |v::r,w,h,hm=>by
  have h1:=h v (Yp ..);have i:∀x∈r,5≤x.size:=λ x j=>h x (Yn _ j);simp only[fQ]
  rcases Yr.1 hm with rfl|q
  ·have:=MX (q:=w.name) i;rw[if_pos rfl];omega
  ·have:=Fb i q;split<;>omega
def ND(q:aj)(w:bP)(r:List bP):gu q (w::r)=if w.name=q then gu q r else w::gu q r:=by
 unfold gu;rw[WN];by_cases h:w.name=q
 ·rw[if_pos h,if_neg (by simpa using h)]
 ·rw[if_neg h,if_pos (by simpa using h)]
def Fa(p q:aj):∀(l:List bP),fQ p (gu q l)=if p=q then 0 else fQ p l
 | []=>by simp[fQ,gu]
 |w::r=>by
  have j:=Fa p q r;rw[ND];by_cases h:w.name=q
  ·rw[if_pos h,j];by_cases i:p=q
   ·rw[if_pos i,if_pos i]
   ·rw[if_neg i,if_neg i];simp only[fQ];rw[if_neg (λ e=>i (by rw[←e,h]))];omega
  ·rw[if_neg h];simp only[fQ,j];by_cases i:p=q
   ·rw[if_pos i,if_pos i,if_neg (λ e=>h (by rw[e,i]))];rfl
   ·rw[if_neg i,if_neg i]
def Od(q:aj):∀{l:List bP},(∀w∈l,5≤w.size)→5*(l.length:Int)≤5*((gu q l).length:Int)+fQ q l
 | [],_=>by simp only[fQ,Yx];omega
 |w::r,h=>by
  have h1:=h w (Yp ..);have:=Od q λ x j=>h x (Yn _ j);rw[ND];simp only[fQ]
  by_cases i:w.name=q
  ·rw[if_pos i,if_pos i,Yh];omega
  ·rw[if_neg i,if_neg i,Yh,Yh];omega
def IX{q:aj}{l:List bP}{w:bP}(h:w∈gu q l):w∈l:=(Wl.1 h).1
def WI.nil(fs:Fs):WI fs []:=⟨(λ w i=>by cases i),λ q=>by simp only[fQ];omega⟩
def Md:∀(fs:Fs) (l:List bP),WI fs l→5*(l.length:Int)≤(eK fs:Int)
 | [],l,h=>by
  cases l with
  |nil=>simp
  |cons w r=>
   have h1:=h.pos w (Yp ..);have j:=Fb h.pos (Yp ..);have y:=h.le w.name;simp only[az,Ve,Yx]at y;omega
 |(q,x)::fs,l,h=>by
  have o:=Md fs (gu q l) ⟨λ w u=>h.pos w (IX u),λ p=>by
   rw[Fa];by_cases i:p=q
   ·rw[if_pos i];omega
   ·have:=h.le p;simp only[az]at this;rw[if_neg i]at this⊢;exact this⟩
  have h1:=Od q h.pos;have j:=h.le q;simp[az]at j;simp only[eK,Yy,List.sum_cons]at o⊢;omega
def WI.len{c:Int}{fs:Fs}{l:List bP}(h:WI fs l)(i:DI c fs):l.length≤209716:=by
 have:=Md fs l h;have:=i.le;omega
def J8{p q:aj}{x:aa}(h:p≠q):∀(fs:Fs),az p (bW q x fs)=az p fs
 | []=>by simp[bW,az,h]
 |(k,y)::r=>by
  simp only[bW];split
  ·rename_i e;subst e;simp only[az];rw[if_neg h,if_neg h]
  ·simp only[az,J8 h r]
def Jr(p q:aj)(x:aa)(fs:Fs):az p (bW q x fs)=if p=q then some x else az p fs:=by
 by_cases h:p=q
 ·subst h;rw[if_pos rfl,Oi]
 ·rw[if_neg h,J8 h]
def WI.app{fs:Fs}{l:List bP}(h:WI fs l)(q:aj)(b:aa)(hb:5≤b.length):WI (bW q ((az q fs).getD []++b) fs) (l++[bP.mk q (b.length:Int)]):=
 ⟨λ w j=>by
  rcases YA.1 j with k|k
  ·exact h.pos w k
  ·simp only[Yu]at k;subst k;simp only;omega,λ p=>by
  have:=h.le p;rw[Jy,Jr];simp only[fQ];by_cases i:p=q
  ·subst i;rw[if_pos rfl,if_pos rfl,YJ,Y8];omega
  ·rw[if_neg (λ e:q=p=>i e.symm),if_neg i];omega⟩
def WI.gu{fs:Fs}{l:List bP}(h:WI fs l)(q:aj):WI fs (gu q l):=
 ⟨λ w i=>h.pos w (IX i),λ p=>by
  rw[Fa];split
  ·omega
  ·exact h.le p⟩
def WI.del{fs:Fs}{l:List bP}(h:WI fs l)(q:aj):WI (ei q fs) (Go.T.gu q l):=
 ⟨λ w j=>h.pos w (IX j),λ p=>by
  rw[Fa];split
  ·omega
  ·rename_i i;rw[J6 i];exact h.le p⟩
def DI.Ay{c:Int}{fs:Fs}(h:DI c fs)(q:aj)(x:aa)(k:Nat)(o:az q fs=some x)(u:k≤x.length):DI (c-((x.length-k:Nat):Int)) (bW q (x.take k) fs):=by
 obtain⟨h1,z,p⟩:=E8 (x.take k) x o;rw[Y9,YY u]at z;have j:=qf o;have:=h.le;have:=h.eK;refine⟨by rw[h1];exact h.nk,by omega,by omega,by rw[p];exact h.n64,?_,?_⟩
 ·intro e i;rcases Cf i with rfl|i
  ·exact h.names (q,x) j
  ·exact h.names e i
 ·intro e i;rcases Cf i with rfl|i
  ·exact λ y A=>h.qD (q,x) j y (YZ A)
  ·exact h.qD e i
def AR(a t:Int)(ha:5≤a)(h:a≤1048576):∃k:Nat,IntKind.wrap IntKind.i64 (a-(if(a<(if((0:Int)>t)then(0:Int)else t))then a else(if((0:Int)>t)then(0:Int)else t)))=(k:Int)∧(k:Int)≤a:=by
 have:∃z:Int,(if(a<(if((0:Int)>t)then(0:Int)else t))then a else(if((0:Int)>t)then(0:Int)else t))=z∧0≤z∧z≤a:=by
  refine⟨_,rfl,?_,?_⟩<;>(repeat' split)<;>omega
 obtain⟨z,e,h1,h2⟩:=this;rw[e,dj (by omega) (by omega)]
 exact⟨(a-z).toNat,by omega,by omega⟩
def bd(n:Nat):aj:=db++Lib.itoa (n:Int)
def JA(n:Nat)(h:n<10000000000):(Lib.itoa (n:Int)).length≤10:=by
 rw[EI];exact O3 n 9 h
def XV(file:aj)(R O:Int)(FS:List aa)(o:aj)(fs:Fs)(hy:o.length≤10)(hn:az (db++o) fs=none)(hF:FS.length≤1048577)(Q:∀x∈FS,x.length≤70000∧dw x)(Y:∀x∈FS,5≤x.length):
 ∀(d i m:Nat) (c:Int) (X:aa) (l:List bP),i+d=FS.length→d<m→DI c (fs++[(db++o,X)])→l.length≤900000+i→
 (∃z dO l',pB FF file R O (0,FS) o m (i:Int) c (fs++[(db++o,X)]) l=some (.inl (3,file,IntKind.wrap IntKind.i64 (R+1),O,z,dO,l'))∧(tg FF (db++o)≠some true∨1048576<eK fs+X.length+(FS.drop i).flatten.length)∧(WI (fs++[(db++o,X)]) l→DI z dO∧WI dO l')∧(∀w∈l',w∈l∨w.name=db++o)∧∃j,j<(FS.drop i).length∧dO=fs++[(db++o,X++((FS.drop i).take j).flatten)])∨
 (∃E z,pB FF file R O (0,FS) o m (i:Int) c (fs++[(db++o,X)]) l=some (.inr (z,fs++[(db++o,X++(FS.drop i).flatten)],l++E))∧(∀w∈E,w.name=db++o)∧E.length=d∧
  DI z (fs++[(db++o,X++(FS.drop i).flatten)])∧(WI (fs++[(db++o,X)]) l→WI (fs++[(db++o,X++(FS.drop i).flatten)]) (l++E))):=by
 intro d;induction d with
 |zero=>
  intro i m c X l h V B T;obtain⟨m,rfl⟩:∃k,m=k+1:=⟨m-1,by omega⟩
  right;have e:FS.drop i=[]:=WQ (by omega)
  rw[e];refine⟨[],c,?_,(λ w u=>by cases u),rfl,by simpa using B,λ u=>by simpa using u⟩
  unfold pB;rw[Ye (by show¬(i:Int)<((FS.length:Nat):Int);omega),Y7]
  simp
 |succ d ih=>
  intro i m c X l h V B T;obtain⟨m,rfl⟩:∃k,m=k+1:=⟨m-1,by omega⟩
  have F:i<FS.length:=by omega
  have y:=Wv F;have U:=Q _ (Wz F);have H:az (db++o) (fs++[(db++o,X)])=some X:=by rw[xK hn];simp[az]
  have Z:db.length=4:=rfl;unfold pB;simp only;rw[Y2 (by omega),Y4,rU,Y4,cI,Y3 F,Y1,ly i (by omega),show([108,111,103,45]:aj)=db from rfl]
  rcases Ka (db++o) FS[i] c _ l (by rw[Y8];omega) (by omega) B (by omega)with ⟨e,he,h1,p⟩|⟨h1,h2,h3,h4⟩
  ·rw[h1,Y1];left;refine⟨c,fs++[(db++o,X)],l,?_,?_,λ u=>⟨B,u⟩,λ w u=>.inl u,0,by rw[Yw];omega,by simp⟩
   rotate_left
   ·rw[IS,H]at p;rw[y,Wu,Y8];have M:eK [(db++o,X)]=X.length:=by simp[eK]
    rw[M]at p;rcases p with q|q|⟨q,_⟩
    ·exact .inl q
    ·exact .inr (by omega)
    ·cases q
   simp only;rw[show((e != 0)=true)from by rcases he with rfl|rfl<;>rfl,Y4]
  ·have A:=B.put (db++o) FS[i] h2 U.2 h3 (λ q=>by rw[H]at q;cases q)
   rw[H]at h1 A;simp only[YJ]at h1 A;have C:WI (fs++[(db++o,X)]) l→WI (fs++[(db++o,X++FS[i])]) (l++[bP.mk (db++o) ((FS[i]).length:Int)]):=λ u=>by
    have:=u.app (db++o) FS[i] (Y _ (Wz F));rw[H,YJ,Jz _ _ hn]at this;exact this
   rw[Jz _ _ hn]at h1 A;rw[h1,Y1];simp only[show((0:Int) != 0)=false from rfl,Y7]
   rcases ih (i+1) m _ (X++FS[i]) (l++[bP.mk (db++o) ((FS[i]).length:Int)]) (by omega) (by omega) A (by simp;omega)with ⟨z,dO,l',g,p,hd,hq,j,hj,J⟩|⟨E,z,g1,g2,g3,g4,g5⟩
   ·refine .inl ⟨z,dO,l',g,?_,λ u=>hd (C u),λ w u=>?_,j+1,by rw[y,Yh];omega,by rw[J,y,List.take_succ_cons,Wu,Yo]⟩
    rotate_left
    ·rcases hq w u with q|q
     ·rcases YA.1 q with q|q
      ·exact .inl q
      ·simp only[Yu]at q;subst q;exact .inr rfl
     ·exact .inr q
    rw[y,Wu,Y8];rw[Y8]at p;rcases p with q|q
    ·exact .inl q
    ·exact .inr (by omega)
   ·refine .inr ⟨bP.mk (db++o) ((FS[i]).length:Int)::E,z,?_,λ w u=>?_,by simp[g3],?_,λ u=>?_⟩
    ·rw[g1,y];simp only[Wu,Yo,V1,YC,YQ]
    ·rcases Yr.1 u with rfl|u
     ·rfl
     ·exact g2 w u
    ·rw[y,Wu,←Yo];exact g4
    ·have:=g5 (C u);rw[Yo l]at this;rw[y,Wu,←Yo];exact this
def Z6(file:aj)(B A:Int)(x0:aa)(FS:List aa)(o:aj)(fs:Fs)(c:Int)(l:List bP)(Q:o.length≤10)(hn:az (db++o) fs=none)(hF:FS.length≤1048576)(H:∀x,x∈x0::FS→x.length≤70000∧dw x)(O:∀x,x∈x0::FS→5≤x.length)
 (J:DI c fs) (hl:l.length≤900000):
 (∃y dO l',pB FF file B A (0,x0::FS) o FF 0 c fs l=some (.inl (3,file,IntKind.wrap IntKind.i64 (B+1),A,y,dO,l'))∧(tg FF (db++o)≠some true∨1048576<eK fs+x0.length+FS.flatten.length∨64≤fs.length)∧(WI fs l→DI y dO∧WI dO l')∧(∀w∈l',w∈l∨w.name=db++o)∧(dO=fs∨∃j<FS.length,dO=fs++[(db++o,x0++(FS.take j).flatten)]))∨
 (∃E y,pB FF file B A (0,x0::FS) o FF 0 c fs l=some (.inr (y,fs++[(db++o,x0++FS.flatten)],l++E))∧(∀w∈E,w.name=db++o)∧E.length≤1048577∧
  DI y (fs++[(db++o,x0++FS.flatten)])∧(WI fs l→WI (fs++[(db++o,x0++FS.flatten)]) (l++E))):=by
 have R:=H x0 (Yp ..);have T:db.length=4:=rfl;have C:pB FF file B A (0,x0::FS) o (3999999+1) 0 c fs l=Option.bind (wH FF (db++o) x0 c fs l) λ i=>
  bif (i.1 != (0:Int))then some (.inl (3,file,IntKind.wrap IntKind.i64 (B+1),A,i.2.1,i.2.2.1,i.2.2.2))else pB FF file B A (0,x0::FS) o 3999999 ((1:Nat):Int) i.2.1 i.2.2.1 i.2.2.2:=by
  conv=>lhs;unfold pB
  simp only;rw[Y2 (by rw[Yh];omega),Y4,show decide ((0:Int)≤0)=true from rfl,Y4,show Int.toNat 0=0 from rfl,Yv,Y1,show([108,111,103,45]:aj)=db from rfl,
   show IntKind.wrap IntKind.i64 ((0:Int)+1)=((1:Nat):Int) by rw[YF];rfl]
 rw[show pB FF file B A (0,x0::FS) o FF 0 c fs l=_ from C]
 rcases Ka (db++o) x0 c fs l (by rw[Y8];omega) (by omega) J (by omega)with ⟨e,U,h1,u⟩|⟨h1,h2,h3,h4⟩
 ·rw[h1,Y1];left;refine⟨c,fs,l,?_,?_,λ p=>⟨J,p⟩,λ w p=>.inl p,.inl rfl⟩
  rotate_left
  ·rcases u with q|q|⟨_,q⟩
   ·exact .inl q
   ·exact .inr (.inl (by omega))
   ·exact .inr (.inr q)
  simp only;rw[show((e != 0)=true)from by rcases U with rfl|rfl<;>rfl,Y4]
 ·have z:=J.put (db++o) x0 h2 R.2 h3 h4;rw[hn]at h1 z;simp only[Ve,YQ]at h1 z;have F:WI fs l→WI (fs++[(db++o,x0)]) (l++[bP.mk (db++o) (x0.length:Int)]):=λ p=>by
   have:=p.app (db++o) x0 (O _ (Yp ..));rw[hn,Ve,YQ,xL _ hn]at this;exact this
  rw[xL _ hn]at h1 z;rw[h1,Y1];simp only[show((0:Int) != 0)=false from rfl,Y7]
  rcases XV file B A (x0::FS) o fs Q hn (by rw[Yh];omega) H O FS.length 1 3999999 _ x0 (l++[bP.mk (db++o) (x0.length:Int)]) (by rw[Yh];omega) (by omega) z (by simp;omega)with ⟨y,dO,l',g,u,hd,V,j,hj,M⟩|⟨E,y,g1,g2,g3,g4,g5⟩
  ·refine .inl ⟨y,dO,l',g,?_,λ p=>hd (F p),λ w p=>?_,.inr ⟨j,by simpa using hj,by rw[M];simp⟩⟩
   rotate_left
   ·rcases V w p with q|q
    ·rcases YA.1 q with q|q
     ·exact .inl q
     ·simp only[Yu]at q;subst q;exact .inr rfl
    ·exact .inr q
   rcases u with q|q
   ·exact .inl q
   ·exact .inr (.inl (by simpa using q))
  ·refine .inr ⟨bP.mk (db++o) (x0.length:Int)::E,y,?_,λ w p=>?_,by simp[g3];omega,g4,λ p=>by simpa using g5 (F p)⟩
   ·rw[g1];simp
   ·rcases Yr.1 p with rfl|p
    ·rfl
    ·exact g2 w p
def IL(r:aa):5≤(dd r).length:=by
 rw[tn];have j:=qg 9 r.length;have i:1≤(bH r.length).length:=j.1;omega
def base(file:aj)(fs:Fs):Fs:=if file=[]then fs else ei file fs
def OQ(bZ:List aa)(file:aj)(last:Nat)(O c:Int)(fs:Fs)(l:List bP)(hr:bZ.length≤1048576)(hB:∀x∈bZ,dw x)(Lr:last≤999999999)(hD:DI c fs)(hl:l.length≤900000)
 (A:∀n:Nat,last<n→n≤999999999→az (bd n) fs=none) (H:file=[]∨∃x,az file fs=some x):
 (sA FF bZ file last O c fs l=some ((1:Int),file,(last:Int),O,c,fs,l)∧∃x∈bZ,65536<x.length)∨
 (∃c2 z dO l',sA FF bZ file last O c fs l=some ((3:Int),file,c2,O,z,dO,l')∧(kb (bd (last+1))=0∨tg FF (bd (last+1))≠some true∨1048576<eK fs+(cd bZ.length bZ []).length∨64≤fs.length)∧(WI fs l→DI z dO∧WI dO l')∧(∀w∈l',w∈l∨w.name=bd (last+1))∧(dO=fs∨eX bZ∧last+1≤999999999∧∃j<bZ.length,dO=fs++[(bd (last+1),cd bZ.length (bZ.take j) [])]))∨
 (eX bZ∧last+1≤999999999∧∃z l',sA FF bZ file last O c fs l=some ((0:Int),bd (last+1),((last+1:Nat):Int),(bZ.length:Int),z,base file fs++[(bd (last+1),cd bZ.length bZ [])],l')∧
  DI z (base file fs++[(bd (last+1),cd bZ.length bZ [])])∧(∀w∈l',w∈l∧w.name≠bd (last+1)∧(file≠[]→w.name≠file))∧l'.length≤l.length∧(WI fs l→WI (base file fs++[(bd (last+1),cd bZ.length bZ [])]) l')):=by
 unfold sA;rcases ZnV bZ hr with ⟨h1,Y⟩|⟨h1,Y⟩
 ·right;have V:eX bZ:=λ x p=>⟨Y x p,hB x p⟩;have pR:=JA (last+1) (by omega)
  rw[h1,Y1];simp only[show((0:Int) != 0)=false from rfl,Y7]
  rw[ly last (by omega)]
  unfold strconv_Itoa;rw[Y2 (by omega),Y4,Y1,show([108,111,103,45]:aj)=db from rfl,Y2 (by show 4+_≤_;omega),Y4]
  unfold zB;rw[Y2 (by rw[Y8];show 4+_≤1073741824;omega),Y4,Y1]
  by_cases U:kb (db++Lib.itoa ((last+1:Nat):Int))=0
  ·rw[U];left;exact⟨_,c,fs,l,by rw[show(((0:Int)==0)=true)from rfl,Y4],.inl U,λ i=>⟨hD,i⟩,λ w i=>.inl i,.inl rfl⟩
  ·rw[show(kb (db++Lib.itoa ((last+1:Nat):Int))==0)=false by simpa using U,Y7]
   obtain⟨n,n1,n2,n3,n4⟩:=OM U;have hn:n=last+1:=(EV (by omega) (by omega) (Vb n4)).symm
   subst hn;have C:=A (last+1) (by omega) n3
   have hp:=qg 9 bZ.length;have Hn:(bH bZ.length).length≤10:=hp.2;have nG:∀x,x∈dd (bH bZ.length)::bZ.map dd→x.length≤70000∧dw x:=by
    intro x p;rcases Yr.1 p with rfl|p
    ·exact⟨by rw[tn];have X:=qg 9 (bH bZ.length).length;have Ii:(bH (bH bZ.length).length).length≤10:=X.2;omega,zG _ (Ck _ _)⟩
    ·obtain⟨r,Q,rfl⟩:=W0.1 p;have:=V r Q;have X:=qg 9 r.length;have Ii:(bH r.length).length≤10:=X.2;exact⟨by rw[tn];omega,zG _ this.2⟩
   have hX:dd (bH bZ.length)++(bZ.map dd).flatten=cd bZ.length bZ []:=by
    unfold cd;rw[YI,List.flatMap_def]
   have h5:∀x,x∈dd (bH bZ.length)::bZ.map dd→5≤x.length:=by
    intro x p;rcases Yr.1 p with rfl|p
    ·exact IL _
    ·obtain⟨r,Q,rfl⟩:=W0.1 p;exact IL _
   rcases Z6 file (last:Int) O (dd (bH bZ.length)) (bZ.map dd) (Lib.itoa ((last+1:Nat):Int)) fs c l pR C (by simpa using hr) nG h5 hD hl with ⟨z,dO,l',g,B,hd,hq,Z⟩|⟨E,z,g1,g2,g3,M,gw⟩
   ·left;rw[g];rw[WW,←Y8,hX]at B;refine⟨_,z,dO,l',rfl,.inr B,hd,hq,Z.imp id λ⟨j,a,b⟩=>⟨V,n3,j,by simpa using a,?_⟩⟩
    rw[b];unfold cd;rw[YI,List.flatMap_def,Ub];rfl
   ·right;rw[hX]at g1 M gw;rw[g1];simp only[Y1,YG,Ya];have RY:az (bd (last+1)) (fs++[(bd (last+1),cd bZ.length bZ [])])=some (cd bZ.length bZ []):=by rw[xK C];simp[az]
    rw[show db++Lib.itoa ((last+1:Nat):Int)=bd (last+1)from rfl]at*
    rw[Ov RY (by rw[Y8];omega),Y1]
    simp only;have R:gu (bd (last+1)) (l++E)=gu (bd (last+1)) l:=by
     unfold gu;rw[List.filter_append];have:E.filter (λ w=>!(w.name==bd (last+1)))=[]:=by
      rw[List.filter_eq_nil_iff];intro w i;rw[g2 w i];simp
     rw[this,YI]
    rw[R];have J:WI fs l→WI (fs++[(bd (last+1),cd bZ.length bZ [])]) (gu (bd (last+1)) l):=λ i=>by
     have:=(gw i).gu (bd (last+1));rw[R]at this;exact this
    refine⟨V,n3,?_⟩;have o:∀(q:aj) (k:List bP),∀w,w∈gu q k→w∈k∧w.name≠q:=by
     intro q k w i;have:=Wl.1 i;exact⟨this.1,by simpa using this.2⟩
    have u:∀(q:aj) (k:List bP),(gu q k).length≤k.length:=λ q k=>Vj ..;rcases H with rfl|⟨x,p⟩
    ·rw[show(!(([]:aj)==[]))=false from rfl,Y7,Y1]
     refine⟨z,gu (bd (last+1)) l,?_,?_,λ w i=>?_,u _ _,λ i=>by simp only[base,Yz];exact J i⟩
     ·simp only[base,Yz]
     ·simp only[base,Yz];exact M
     ·exact⟨(o _ _ w i).1,(o _ _ w i).2,λ q=>absurd rfl q⟩
    ·by_cases y:file=[]
     ·subst y;rw[show(!(([]:aj)==[]))=false from rfl,Y7,Y1]
      refine⟨z,gu (bd (last+1)) l,?_,?_,λ w i=>?_,u _ _,λ i=>by simp only[base,Yz];exact J i⟩
      ·simp only[base,Yz]
      ·simp only[base,Yz];exact M
      ·exact⟨(o _ _ w i).1,(o _ _ w i).2,λ q=>absurd rfl q⟩
     ·rw[show(!(file==[]))=true by simpa using y,Y4]
      have F:=Cq (gs:=[(bd (last+1),cd bZ.length bZ [])]) p;have jL:=vZ (qf F);simp only at jL;have t1:=M.eK;have t2:=M.le;have:=u (bd (last+1)) l;rw[O' F (by omega) (by omega),Y1]
      have T:=M.del file x F;rw[EW p]at T;refine⟨_,gu file (gu (bd (last+1)) l),?_,by rw[base,if_neg y];exact T,λ w i=>?_,by have:=u file (gu (bd (last+1)) l);omega,λ i=>?_⟩
      ·simp only;rw[EW p,Y1,base,if_neg y]
      ·have a1:=o _ _ w i;have a2:=o _ _ w a1.1;exact⟨a2.1,a2.2,λ _=>a1.2⟩
      ·have:=(J i).del file;rw[EW p]at this;rw[base,if_neg y];exact this
 ·left;rw[h1,Y1];exact⟨rfl,Y⟩
end Go.T
