import Derived.Test.YtjpmdkgonlmddaaGreatDoorLB
set_option linter.defProp false
set_option linter.unusedVariables false
set_option linter.unusedSimpArgs false
namespace Go.T
open Go Go.Ab
def xM{a b:Nat}(ha:a≤999999999)(hb:b≤999999999)(h:bd a=bd b):a=b:=EV (by omega) (by omega) (Vb h)
def XM{n:Nat}(h1:1≤n)(i:n≤999999999):kb (bd n)=n:=Zpl n h1 i
def EO(n:Nat):bd n≠[]:=by unfold bd db;simp
def Cg{s:aj}(h:kb s≠0):∃n:Nat,kb s=n∧1≤n∧n≤999999999∧s=bd n:=OM h
def MA(s:aj):0<kb s↔kb s≠0:=by
 constructor
 ·intro h;omega
 ·intro h;obtain⟨n,h1,h2,_⟩:=Cg h;omega
def Xd(j:List aj)(hn:j.length≤1000)(o:∀s∈j,s.length≤16):∀(d i m:Nat) (l:aa),i+d=j.length→d<m→l.length≤i→
 tu FF j m (i:Int) l=some (l++((j.drop i).map kb).filter λ z=>decide (0<z)):=by
 intro d;induction d with
 |zero=>
  intro i m l h x y;obtain⟨m,rfl⟩:∃k,m=k+1:=⟨m-1,by omega⟩
  have e:j.drop i=[]:=WQ (by omega)
  unfold tu;rw[Ye (by omega),Y7,e]
  simp
 |succ d ih=>
  intro i m l h x y;obtain⟨m,rfl⟩:∃k,m=k+1:=⟨m-1,by omega⟩
  have u:i<j.length:=by omega
  have q:=Wv u;have hs:=o _ (Wz u);unfold tu zB;rw[Y2 (by omega),Y4,rU,Y4,cI,Y3 u,Y1,Y2 (by simp only[bI];omega),Y4,Y1,q,Yy,ly i (by omega)]
  by_cases p:0<kb j[i]
  ·rw[Y2 p,Y4,Y2 (by simp only[bI];omega),Y4,Y1,ih (i+1) m _ (by omega) (by omega) (by simp;omega),WN,Y2 p,if_pos rfl]
   simp
  ·rw[Ye p,Y7,Y1,ih (i+1) m _ (by omega) (by omega) (by omega),WN,Ye p,if_neg (by simp)]
def jd(fs:Fs):aa:=(fc (((gV (fs.map Prod.fst)).map kb).filter λ z=>decide (0<z))).reverse
def ZY(fs:Fs)(z:Int):z∈jd fs↔0<z∧∃e∈fs,kb e.1=z:=by
 unfold jd;rw[List.mem_reverse,(OU _).mem_iff,Wl,W0];constructor
 ·rintro⟨⟨s,h1,j⟩,o⟩;rw[(CJ _).mem_iff]at h1;obtain⟨e,i,rfl⟩:=W0.1 h1;exact⟨YM o,e,i,j⟩
 ·rintro⟨h1,e,i,j⟩;exact⟨⟨e.1,(CJ _).mem_iff.2 (WY i),j⟩,Y2 h1⟩
def ZnN(fs:Fs)(h:(fs.map Prod.fst).Nodup):(jd fs).Nodup:=by
 unfold jd;rw[(List.reverse_perm _).nodup_iff,(OU _).nodup_iff,List.filter_map];have h1:(gV (fs.map Prod.fst)).Nodup:=(CJ _).nodup_iff.2 h;unfold List.Nodup at h1⊢;rw[List.pairwise_map];refine(h1.filter _).imp_of_mem ?_;intro a b o j i he;have o:=YM (Wl.1 o).2;have j:=YM (Wl.1 j).2;obtain⟨n,n1,n2,n3,p⟩:=Cg ((MA a).1 o);obtain⟨k,k1,k2,k3,k4⟩:=Cg ((MA b).1 j);apply i;rw[p,k4];congr 1;omega
def ZZ(fs:Fs)(h:(fs.map Prod.fst).Nodup):∃o:bL,jd fs=o.map (λ n:Nat=>(n:Int))∧o.Nodup∧(∀z∈o,1≤z∧z≤999999999∧∃x,az (bd z) fs=some x)∧
 (∀e∈fs,kb e.1≠0→∃z∈o,e.1=bd z):=by
 have i:=ZY fs;refine⟨(jd fs).map Int.toNat,?_,?_,?_,?_⟩
 ·rw[Wa];symm;have:∀z,z∈jd fs→((λ n:Nat=>(n:Int))∘Int.toNat) z=id z:=by
   intro z j;have:=((i z).1 j).1;show((z.toNat:Nat):Int)=z;omega
  rw[WZ this,List.map_id]
 ·have hn:=ZnN fs h;unfold List.Nodup at hn⊢;rw[List.pairwise_map];refine hn.imp_of_mem ?_;intro a b B C F p;have:=((i a).1 B).1;have:=((i b).1 C).1;omega
 ·intro z j;obtain⟨y,E,rfl⟩:=W0.1 j;obtain⟨h1,e,p,h2⟩:=(i y).1 E;obtain⟨n,n1,u,A,q⟩:=Cg (show kb e.1≠0 by omega)
  have:y.toNat=n:=by omega
  rw[this];exact⟨u,A,e.2,by rw[←q];exact UU h p⟩
 ·intro e p j;obtain⟨n,n1,u,A,q⟩:=Cg j;refine⟨n,W0.2 ⟨(n:Int),(i n).2 ⟨by omega,e,p,n1⟩,by omega⟩,q⟩
def v8(s:Int×Fs×List aa×Bool×List bP×aj×Int×Int):Option ((Int×Int×Fs×(List aa)×(List bP))⊕((List aa)×Int×Int×Fs×aj×Int×Int×(List bP))):=
 Option.bind (
  (bif (!s.2.2.2.1)then(
   (Option.bind (sA FF s.2.2.1 s.2.2.2.2.2.1 s.2.2.2.2.2.2.1 s.2.2.2.2.2.2.2 s.1 s.2.1 s.2.2.2.2.1) λ i=>(
    (bif (i.1 != (0:Int))then(
     some (Sum.inl (Sum.inl (i.1,i.2.2.2.2.1,i.2.2.2.2.2.1,[],i.2.2.2.2.2.2)))
    )else(
     some (Sum.inr (i.2.2.2.2.1,i.2.2.2.2.2.1,i.2.2.2.2.2.2,i.2.1,i.2.2.1,i.2.2.2.1))
    ))
   ))
  )else(
   some (Sum.inr (s.1,s.2.1,s.2.2.2.2.1,s.2.2.2.2.2.1,s.2.2.2.2.2.2.1,s.2.2.2.2.2.2.2))
  ))
 ) λ y=>Sum.elim (λ r=>some r) (λ(u,j,x,p,o,q)=>(
  some (Sum.inr (s.2.2.1,(0:Int),u,j,p,o,q,x))
 )) y
def Xc(c:Int)(fs:Fs)(l:List bP)(h:DI c fs):uX FF c fs l=Option.bind (lx FF (jd fs) c fs [] false l [] 0 0) v8:=by
 have q:=h.n64;have i:(List.all fs λ e=>decide (e.1.length≤bI))=true:=by
  rw[YW];intro e j;have:=h.names e j;exact Y2 (by simp only[bI];omega)
 have p:(gV (fs.map Prod.fst)).length=fs.length:=by rw[(CJ _).length_eq,Ya]
 unfold uX FI;rw[Y2 (by exact⟨by simp only[bI];omega,i⟩),Y4,Y1]
 have h0:=Xd (gV (fs.map Prod.fst)) (by omega) (by
  intro s o;rw[(CJ _).mem_iff]at o;obtain⟨e,j,rfl⟩:=W0.1 o;exact h.names e j) fs.length 0 FF [] (by omega) (by show _<4000000;omega) (by simp)
 rw[show tu FF (gV (fs.map Prod.fst)) FF 0 []=_ from h0]
 simp only[Y1,VK,YQ];unfold F4;rw[Y2 (by have:=Vj (λ z=>decide ((0:Int)<z)) ((gV (fs.map Prod.fst)).map kb);rw[Ya]at this;simp only[bI];omega),Y4,Y1]
 unfold F5;rw[Y1];rfl
def Zu(c:Int)(fs:Fs)(rs:List aa)(l:List bP)(file:aj)(last eA:Int):v8 (c,fs,rs,true,l,file,last,eA)=some (.inr (rs,0,c,fs,file,last,eA,l)):=rfl
def Zd{c:Int}{fs:Fs}{rs:List aa}{l:List bP}{file o:aj}{last eA j p i:Int}{dO:Fs}{l':List bP}(h:sA FF rs file last eA c fs l=some (3,o,j,p,i,dO,l')):
 v8 (c,fs,rs,false,l,file,last,eA)=some (.inl (3,i,dO,[],l')):=by
 unfold v8;simp only[V2,Y4,h,Y1,show((3:Int) != 0)=true from rfl,Wr]
def TA{c:Int}{fs:Fs}{rs:List aa}{l:List bP}{file o:aj}{last eA i p j:Int}{dO:Fs}{l':List bP}(h:sA FF rs file last eA c fs l=some (0,o,i,p,j,dO,l')):
 v8 (c,fs,rs,false,l,file,last,eA)=some (.inr (rs,0,j,dO,o,i,p,l')):=by
 unfold v8;simp only[V2,Y4,h,Y1,show((0:Int) != 0)=false from rfl,Y7,YG]
def mx(z:Nat)(last:Int):Int:=if(z:Int)>last then(z:Int)else last
def Xf(z:Nat)(hz:z≤999999999)(y:aa)(c:Int)(fs:Fs)(i:List aa)(cl:Bool)(l:List bP)(file:aj)(last eA:Int)(h:DI c fs)(C:l.length≤2000000)(x:aa)(o:az (bd z) fs=some x)
 (size:Nat) (whole:Bool) (rs:List aa) (B:nA FF x=some ((size:Int),whole,rs)):
 lx FF ((z:Int)::y) c fs i cl l file last eA=
  if file≠[]∨whole=false then lx FF y (c-(x.length:Int)) (ei (bd z) fs) i cl (gu (bd z) l) file (mx z last) eA
  else lx FF y c fs rs (decide (size=x.length)) l (bd z) (mx z last) (rs.length:Int):=by
 have p:=vZ (qf o);simp only at p;have ht:=h.eK;have E:=h.le;have F:=JA z (by omega)
 have u:x.length≤bI:=by simp only[bI];omega
 conv=>lhs;unfold lx
 unfold strconv_Itoa;rw[Y2 (by omega),Y4,Y1,show([108,111,103,45]:aj)=db from rfl,Y2 (by show 4+_≤_;omega),Y4,show db++Lib.itoa (z:Int)=bd z from rfl,
  Zpz o u,Y1]
 simp only[Wr,B,Y1,Ya];rw[show(if(z:Int)>last then(z:Int)else last)=mx z last from rfl]
 rw[O' o C (by omega)]
 by_cases j:file=[]
 ·subst j;cases whole with
  |true=>
   rw[if_neg (by rintro(q|q);exact q rfl;cases q)]
   simp only[WS,YV,Y7,Y1];congr 1;by_cases A:size=x.length
   ·rw[A];simp
   ·rw[Ye A];simp only[beq_eq_false_iff_ne,ne_eq];omega
  |false=>
   rw[if_pos (.inr rfl)];simp only[WS,YV,V2,Y7,Y4,Y1]
 ·rw[if_pos (Or.inl j),show(!(file==[]))=true by simpa using j]
  simp only[Y4,Y1]
def wv(N:aj)(r:aa):bP:=bP.mk N ((dd r).length:Int)
def JK(j o:Int)(l:List bP)(K:Nat)(p:(if((l.length:Int)<(if(0:Int)>j then(0:Int)else j))then(l.length:Int)else(if(0:Int)>j then(0:Int)else j))=(K:Int))(m:Nat)(i c:Int)(fs:Fs)(h:i<K):
 pz FF j o l (m+1) i c fs=some (c,fs):=by
 unfold pz;rw[p,Ye (by omega),Y7]
def X8(u p:Int)(N:aj)(P:aa)(o:List aa)(hp:eX o)(yW:o.length≤2000000)(K T:Nat)(R:(if(((o.map (wv N)).length:Int)<(if(0:Int)>u then(0:Int)else u))then((o.map (wv N)).length:Int)else(if(0:Int)>u then(0:Int)else u))=(K:Int))
 (hT:(if(0:Int)>p then(0:Int)else p)=(T:Int)):
 ∀(j m:Nat) (i c:Int),i=(j:Int)-1→j+1<m→j≤o.length→(P++(o.take j).flatMap dd).length≤1048576→c=((P++(o.take j).flatMap dd).length:Int)→
 ∃(E:Nat) (t:aa) (Q:Int),E≤o.length∧Un t∧dw t∧pz FF u p (o.map (wv N)) m i c [(N,P++(o.take j).flatMap dd)]=some (Q,[(N,P++(o.take E).flatMap dd++t)])∧Q=((P++(o.take E).flatMap dd++t).length:Int)∧
  (P++(o.take E).flatMap dd++t).length≤1048576∧(∀r,o[K]? =some r→K<j→T<(dd r).length→E=K∧t.length=T)∧(j=0→t=[]):=by
 intro j;induction j with
 |zero=>
  intro m i c X hm hj J M;obtain⟨m,rfl⟩:∃k,m=k+1:=⟨m-1,by omega⟩
  refine⟨0,[],c,by omega,s9,dw.nil,?_,by simpa using M,by simpa using J,λ r _ q=>by omega,λ _=>rfl⟩
  rw[JK u p _ K R m i c _ (by omega)]
  simp
 |succ j ih=>
  intro m i c X hm hj J M;have X:i=(j:Int):=by omega
  subst X;obtain⟨m,rfl⟩:∃k,m=k+1:=⟨m-1,by omega⟩
  have B:j<o.length:=by omega
  have Z:o.take (j+1)=o.take j++[o[j]]:=by rw[W8,Y3 B];rfl
  have V:=hp _ (Wz B);by_cases hKj:K≤j
  ·have z:P++(o.take (j+1)).flatMap dd=(P++(o.take j).flatMap dd)++dd o[j]:=by rw[Z,VR,Yo];simp
   rw[z]at J M⊢;have hlen:=@Y8 _ (P++(o.take j).flatMap dd) (dd o[j]);have y:∀(s:Nat),s≤(dd o[j]).length→(j=K→s=min (dd o[j]).length T)→(j≠K→s=0)→pz FF u p (o.map (wv N)) (m+1) (j:Int) c [(N,(P++(o.take j).flatMap dd)++dd o[j])]=
    pz FF u p (o.map (wv N)) m ((j:Int)-1) (((P++(o.take j).flatMap dd++(dd o[j]).take s).length:Nat):Int) [(N,P++(o.take j).flatMap dd++(dd o[j]).take s)]:=by
    intro s U Rf Hf;have Y:(o.map (wv N))[j]? =some (wv N o[j]):=by rw[YD,Y3 B];rfl
    conv=>lhs;unfold pz
    rw[R,Y2 (by omega),Y4,rU,Y4,cI,Y,Y1,Y1]
    have F:(bif ((j:Int)==(K:Int))then(some (IntKind.wrap IntKind.i64 ((wv N o[j]).size-(if((wv N o[j]).size<(if((0:Int)>p)then(0:Int)else p))then(wv N o[j]).size else(if((0:Int)>p)then(0:Int)else p)))))
     else some (wv N o[j]).size)=some ((((dd o[j]).length-s:Nat)):Int):=by
     simp only[wv,hT];by_cases x:j=K
     ·have H:((j:Int)==(K:Int))=true:=by rw[Vy];omega
      rw[H,Y4,Rf x];congr 1;by_cases ht:(dd o[j]).length<T
      ·rw[if_pos (by omega),YY (by omega),YF];omega
      ·rw[if_neg (by omega),Nat.min_eq_right (by omega),YF];omega
     ·rw[show(((j:Int)==(K:Int))=false)from by rw[beq_eq_false_iff_ne];omega,Y7,Hf x];rfl
    rw[F,Y1];have hg:az (wv N o[j]).name [(N,(P++(o.take j).flatMap dd)++dd o[j])]=some ((P++(o.take j).flatMap dd)++dd o[j]):=by simp[az,wv]
    rw[hg];simp only[YS,Y4,YJ,Ya];have hw:IntKind.wrap IntKind.i64 ((((P++(o.take j).flatMap dd)++dd o[j]).length:Int)-(((dd o[j]).length-s:Nat):Int))=(((P++(o.take j).flatMap dd).length+s:Nat):Int):=by
     rw[YF];omega
    simp only[hw,rU,Y4,cI];rw[Y2 (by omega),Y4,show decide (List.length [(N,(P++(o.take j).flatMap dd)++dd o[j])]+1≤bI)=true from rfl,Y4]
    rw[show IntKind.wrap IntKind.i64 ((j:Int)-1)=(j:Int)-1 by rw[YF];omega]
    have C:((P++(o.take j).flatMap dd)++dd o[j]).take ((P++(o.take j).flatMap dd).length+s)=P++(o.take j).flatMap dd++(dd o[j]).take s:=by
     rw[List.take_length_add_append]
    have H4:IntKind.wrap IntKind.i64 (c-(((dd o[j]).length-s:Nat):Int))=(((P++(o.take j).flatMap dd++(dd o[j]).take s).length:Nat):Int):=by
     rw[M,hw,@Y8 _ (P++(o.take j).flatMap dd),Y9,YY U]
    rw[C,H4];simp[bW,wv]
   by_cases x:j=K
   ·have U:=y (min (dd o[j]).length T) (Nat.min_le_left _ _) (λ _=>rfl) (λ q=>absurd x q);obtain⟨m,rfl⟩:∃k,m=k+1:=⟨m-1,by omega⟩
    rw[U,JK u p _ K R m _ _ _ (by omega)]
    by_cases O:(dd o[j]).length≤T
    ·refine⟨j+1,[],((P++(o.take j).flatMap dd++(dd o[j]).take (min (dd o[j]).length T)).length:Int),hj,s9,dw.nil,?_,?_,?_,?_,λ q=>by omega⟩
     ·rw[YY O,W7,YI,z]
     ·rw[YY O,W7,YI,z]
     ·rw[YI,z];exact J
     ·intro r A _ Ri;rw[←x,Y3 B]at A;injection A with A;subst A;omega
    ·refine⟨j,(dd o[j]).take (min (dd o[j]).length T),_,by omega,EN o[j] _ V.1 V.2 (Wp ..) (by rw[Y9];omega),(zG _ V.2).take _,rfl,rfl,?_,λ r _ _ _=>⟨x,by rw[Y9];omega⟩,λ q=>by omega⟩
     rw[Y8,Y9];omega
   ·rw[y 0 (YL _) (λ q=>absurd q x) (λ _=>rfl),Ul,YI];obtain⟨E,t,Q,a1,a2,a3,a4,a5,a6,a7,a8⟩:=ih m ((j:Int)-1) _ rfl (by omega) (by omega) (by omega) rfl
    exact⟨E,t,Q,a1,a2,a3,a4,a5,a6,λ r h1 h2=>a7 r h1 (by omega),λ q=>by omega⟩
  ·refine⟨j+1,[],c,hj,s9,dw.nil,?_,by rw[YI];exact M,by rw[YI];exact J,λ r _ q=>by omega,λ q=>by omega⟩
   rw[JK u p _ K R m _ c _ (by omega),YI]
def X7(j o:Int)(N:aj)(P:aa)(i:List aa)(R:eX i)(B:i.length≤2000000)(O:(P++i.flatMap dd).length≤1048576):
 ∃(u:Nat) (t:aa) (x:Int),u≤i.length∧Un t∧dw t∧qk FF j o ((P++i.flatMap dd).length:Int) [(N,P++i.flatMap dd)] (i.map (wv N))=some (x,[(N,P++(i.take u).flatMap dd++t)])∧
  x=((P++(i.take u).flatMap dd++t).length:Int)∧(P++(i.take u).flatMap dd++t).length≤1048576∧(j=0→o=3→∀r,i[0]? =some r→3<(dd r).length→u=0∧t.length=3)∧(i=[]→t=[]):=by
 obtain⟨K,F⟩:∃K:Nat,(if(((i.map (wv N)).length:Int)<(if(0:Int)>j then(0:Int)else j))then((i.map (wv N)).length:Int)else(if(0:Int)>j then(0:Int)else j))=(K:Int):=by
  refine⟨(if(((i.map (wv N)).length:Int)<(if(0:Int)>j then(0:Int)else j))then((i.map (wv N)).length:Int)else(if(0:Int)>j then(0:Int)else j)).toNat,?_⟩;split<;>split<;>omega
 obtain⟨T,C⟩:∃T:Nat,(if(0:Int)>o then(0:Int)else o)=(T:Int):=by
  refine⟨(if(0:Int)>o then(0:Int)else o).toNat,?_⟩;split<;>omega
 have p:i.take i.length=i:=W7;have:=X8 j o N P i R B K T F C i.length FF ((i.length:Int)-1) ((P++i.flatMap dd).length:Int) rfl (by show _<4000000;omega) (Yg _) (by rw[p];exact O) (by rw[p])
 obtain⟨u,t,x,h1,M,z,H,J,Q,X,V⟩:=this;refine⟨u,t,x,h1,M,z,?_,J,Q,?_,λ q=>V (by rw[q];rfl)⟩
 rotate_left
 ·rintro rfl rfl r E U;have y:T=3:=by rw[if_neg (by omega)]at C;omega
  have A:K=0:=by rw[if_neg (show¬(0:Int)>0 by omega),if_neg (by omega)]at F;omega
  subst y A;have:=Ys.1 E;obtain⟨q,_⟩:=this;exact X r E q U
 rw[p]at H;unfold qk;rw[Ya,Ya,show IntKind.wrap IntKind.i64 ((i.length:Int)-1)=(i.length:Int)-1 by rw[YF];omega,H]
 rfl
def Oj(n:Nat)(h:n≤999999999):(bd n).length≤14:=by
 have:=JA n (by omega)
 unfold bd;rw[Y8];show 4+_≤14;omega
def Tw:DI 0 []:=⟨.nil,rfl,by decide,by decide,(λ e i=>by cases i),(λ e i=>by cases i)⟩
def EA(n:Nat)(X:aa)(h:n≤999999999)(j:X.length≤1048576)(o:dw X):DI (X.length:Int) [(bd n,X)]:=by
 have:=Oj n h;refine⟨by simp,by simp[eK],by simpa[eK]using j,by simp,?_,?_⟩
 ·intro e i;simp only[Yu]at i;subst i;simp only;omega
 ·intro e i;simp only[Yu]at i;subst i;exact o
def qL(n:Nat)(X:aa):az (bd n) [(bd n,X)]=some X:=by simp[az]
def XL(n:Nat)(X Y:aa):bW (bd n) Y [(bd n,X)]=[(bd n,Y)]:=by simp[bW]
def NN(n:Nat)(X:aa):ei (bd n) [(bd n,X)]=[]:=by simp[ei]
def xJ(n:Nat)(X:aa):eK [(bd n,X)]=X.length:=by simp[eK]
def Ze{rs:List aa}(h:eX rs):dw (rs.flatMap dd):=by
 intro y i;obtain⟨r,j,i⟩:=List.mem_flatMap.1 i;exact zG r (h r j).2 y i
def EK{k:Nat}{rs:List aa}{t:aa}(h:eX rs)(i:dw t):dw (cd k rs t):=dw.append (zG _ (Ck _ _)) (dw.append (Ze h) i)
def Zq4(r:aa):5≤(dd r).length:=by
 have j:=qg 9 r.length;have i:1≤(bH r.length).length:=j.1;rw[tn];omega
def NF(rs:List aa):rs.length≤(rs.flatMap dd).length:=by
 induction rs with
 |nil=>simp
 |cons r rs ih=>
  have:=Zq4 r;rw[U6,Y8,Yh];omega
def B9(k:Nat)(rs:List aa)(t:aa):rs.length≤(cd k rs t).length:=by
 have:=NF rs;unfold cd;rw[Y8,Y8];omega
def XG(k:Nat)(rs:List aa)(r:aa):cd k (rs++[r]) []=cd k rs []++dd r:=by
 unfold cd;rw[VR];simp
def OV{q:aj}{x:aa}{n k c:Int}{fs:Fs}{l:List bP}(h:az q fs=some x)(i:l.length≤2000000):CV FF q n k c fs l=some (0,c,gu q l):=by
 unfold CV;rw[Ov h i];rfl
def Mf(N:aj)(rs:List aa):gu N (rs.map (wv N))=[]:=by
 unfold gu;rw[List.filter_eq_nil_iff];intro w i;obtain⟨r,_,rfl⟩:=W0.1 i;simp[wv]
def QO(z last:Nat):mx z (last:Int)=((max z last:Nat):Int):=by
 unfold mx;split<;>omega
end Go.T
