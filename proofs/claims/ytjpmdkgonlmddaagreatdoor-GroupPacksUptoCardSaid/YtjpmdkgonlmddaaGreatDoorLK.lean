import Derived.Test.YtjpmdkgonlmddaaGreatDoorLJ
set_option linter.defProp false
set_option linter.unusedVariables false
set_option maxRecDepth 20000
namespace Go.T
open Go Go.Ab
def PK(l:List cD):Prop:=l.length≤512∧∀p∈l,p.Body.length≤65536
section
variable {κ ν:Type}[DecidableEq κ]
def JU{q:κ}{x:ν}{e:κ×ν}:∀{l:List (κ×ν)},e∈bW q x l→e=(q,x)∨e∈l
 | [],h=>by simp[bW]at h;exact .inl h
 |d::r,h=>by
  simp only[bW]at h;by_cases k:q=d.1
  ·rw[if_pos k]at h;rcases Yr.1 h with h|h
   ·exact .inl h
   ·exact .inr (Yn _ h)
  ·rw[if_neg k]at h;rcases Yr.1 h with h|h
   ·exact .inr (by rw[h];exact Yp ..)
   ·rcases JU h with h|h
    ·exact .inl h
    ·exact .inr (Yn _ h)
def wj{q:κ}{x:ν}:∀{l:List (κ×ν)},az q l=some x→bW q x l=l
 | [],h=>by cases h
 |e::r,h=>by
  simp only[az]at h;simp only[bW];by_cases k:q=e.1
  ·rw[if_pos k]at h;cases h;rw[if_pos k,k]
  ·rw[if_neg k]at h;rw[if_neg k,wj h]
def JT(q:κ)(x:ν):∀(l:List (κ×ν)),(bW q x l).length≤l.length+1
 | []=>by simp[bW]
 |e::r=>by
  have:=JT q x r;simp only[bW];split<;>simp only[Yh]<;>omega
def Og(q:κ):∀(l:List (κ×ν)),(ei q l).length≤l.length
 | []=>by simp[ei]
 |e::r=>by
  have:=Og q r;simp only[ei];split<;>simp only[Yh]<;>omega
end
section
variable {ag:aa}{b:Nat}{c:aa}{gs:List (Int×ai)}{l:List bx}{n7 n8:aa}{n9:List da}{n10:List cD}
end
abbrev DJ:=Int×aa×Bool×(List (Int×ai))×Int×Bool×(List bx)×aa×aa×(List da)×(List cD)
abbrev KN:=Int×aa×Bool×(List (Int×ai))×Int×Bool×bD×aj×Int×Int×(List bx)×aa×aa×(List da)×(List cD)
set_option linter.unusedSimpArgs false
def dX(n:Int):cA:=cA.mk 1 n []
def fm(s:aj):cA:=cA.mk 3 0 s
def eH:List bx→List cA
 | []=>[]
 |e::r=>dX e.Term::fm e.Data::eH r
def Zp(l:List bx):(eH l).length=2*l.length:=by
 induction l with
 |nil=>rfl
 |cons e r ih=>simp only[eH,Yh,ih];omega
def iB(m:cj):Int:=if m.mc then 1 else 0
def qH(m:cj):List cA:=[dX m.Kind,dX m.cV,dX m.To,dX m.Term,dX m.Index,dX m.bM,dX m.ah,dX (iB m),dX (m.Entries.length:Int)]
def il(m:cj):List cA:=qH m++eH m.Entries++[fm m.Data]
def CL(m:cj):(il m).length=10+2*m.Entries.length:=by
 simp only[il,qH,Y8,Zp,Yh,Yx];omega
def DQ(m:cj):Prop:=m.Kind<9223372036854775808∧m.cV<9223372036854775808∧m.To<9223372036854775808∧m.Term<9223372036854775808∧m.Index<9223372036854775808∧m.bM<9223372036854775808∧m.ah<9223372036854775808∧∀e∈m.Entries,e.Term<9223372036854775808
def Nz:∀{l:List bx},(∀e∈l,e.Term<9223372036854775808)→∀f,f∈eH l→okF f
 | [],_,f,h=>by cases h
 |e::r,hl,f,h=>by
  simp only[eH,Yr]at h;rcases h with rfl|rfl|h
  ·exact .inl ⟨rfl,hl e Yp⟩
  ·exact .inr rfl
  ·exact Nz (λ e h=>hl e (Yn _ h)) f h
def Ox{m:cj}(h:DQ m)(hn:m.Entries.length≤127):∀f,f∈il m→okF f:=by
 obtain⟨h1,p,o,u,j,y,q,z⟩:=h;intro f i;simp only[il,qH,YA,Yr,Vf,or_false]at i;have x:iB m<9223372036854775808:=by unfold iB;split<;>decide
 rcases i with ((rfl|rfl|rfl|rfl|rfl|rfl|rfl|rfl|rfl)|i)|rfl
 ·exact .inl ⟨rfl,h1⟩
 ·exact .inl ⟨rfl,p⟩
 ·exact .inl ⟨rfl,o⟩
 ·exact .inl ⟨rfl,u⟩
 ·exact .inl ⟨rfl,j⟩
 ·exact .inl ⟨rfl,y⟩
 ·exact .inl ⟨rfl,q⟩
 ·exact .inl ⟨rfl,x⟩
 ·exact .inl ⟨rfl,by show(m.Entries.length:Int)<_;omega⟩
 ·exact Nz z f i
 ·exact .inr rfl
def NI(m:cj)(hn:m.Entries.length≤127):∀(r:List bx) (q i:Nat) (l:List cA),m.Entries.drop i=r→i+r.length=m.Entries.length→r.length<q→l.length+2*r.length≤1000→
 ye FF m q (i:Int) l=some (l++eH r)
 | [],q,i,l,hd,hi,hq,hl=>by
  obtain⟨q,rfl⟩:∃p,q=p+1:=⟨q-1,by omega⟩
  simp only[Yx]at hi;simp only[ye];rw[show decide ((i:Int)<(m.Entries.length:Int))=false from Ye (by omega),Y7]
  simp[eH]
 |e::r,q,i,l,hd,hi,hq,hl=>by
  obtain⟨q,rfl⟩:∃p,q=p+1:=⟨q-1,by omega⟩
  simp only[Yh]at hi hq hl;have u:m.Entries[i]? =some e:=by
   have:=YP (xs:=m.Entries) (i:=i) (j:=0);rw[hd]at this;simpa using this.symm
  have o:m.Entries.drop (i+1)=r:=by rw[←WX,hd];rfl
  simp only[ye];rw[show decide ((i:Int)<(m.Entries.length:Int))=true from Y2 (by omega),Y4,show decide ((0:Int)≤(i:Int))=true from Y2 (by omega),Y4,Yf,u]
  simp only[Y1,pr,zz];rw[show decide (l.length+2≤bI)=true from Y2 (by unfold bI;omega),Y4,yO _ (by omega),NI m hn r q (i+1) _ o (by omega) (by omega) (by simp;omega)]
  simp[eH,dX,fm]
def iN(m:cj):aj:=if 127<m.Entries.length then []else match cZ (il m)with|some b=>cv b|none=>[]
def XB(m:cj)(i:DQ m):CR FF m=some (iN m):=by
 unfold CR iN;by_cases h:127<m.Entries.length
 ·rw[show decide ((127:Int)<(m.Entries.length:Int))=true from Y2 (by omega),Y4,if_pos h]
 ·rw[show decide ((127:Int)<(m.Entries.length:Int))=false from Ye (by omega),Y7,if_neg h]
  have p:(bif m.mc then some (1:Int)else some 0)=some (iB m):=by unfold iB;cases m.mc<;>rfl
  rw[p];simp only[Y1,pr,zz,Ya];have h1:=NI m (by omega) m.Entries FF 0 (qH m) (by simp) (by simp) (by show _<4000000;omega) (by simp[qH];omega)
  simp only[qH,dX]at h1;rw[show((0:Nat):Int)=0 from rfl]at h1
  rw[h1];simp only[Y1];have j:=CL m;have o:=E2 (il m) (Ox i (by omega)) (by omega)
  simp only[il,qH,dX,fm]at j o;rw[show decide ((([cA.mk 1 m.Kind [],cA.mk 1 m.cV [],cA.mk 1 m.To [],cA.mk 1 m.Term [],cA.mk 1 m.Index [],cA.mk 1 m.bM [],cA.mk 1 m.ah [],cA.mk 1 (iB m) [],cA.mk 1 (m.Entries.length:Int) []]++eH m.Entries).length)+1≤bI)=true from Y2 (by simp only[Y8,Yh,Yx]at j⊢;unfold bI;omega),Y4,o]
  simp only[Y1,il,qH,dX,fm];cases h4:cZ ([cA.mk 1 m.Kind [],cA.mk 1 m.cV [],cA.mk 1 m.To [],cA.mk 1 m.Term [],cA.mk 1 m.Index [],cA.mk 1 m.bM [],cA.mk 1 m.ah [],cA.mk 1 (iB m) [],cA.mk 1 (m.Entries.length:Int) []]++eH m.Entries++[cA.mk 3 0 m.Data])with
  |none=>rfl
  |some b=>
   simp only;rw[Kb (zE h4)];rfl
def eh:Nat→Int→aa→Int×Bool
 |_,_,[]=>(0,false)
 |k,p,c::r=>if c<128 then(if k=1 then(c,decide (p<128))else eh (k-1) c r)else eh k c r
def jU(u:aj):Nat:=u.countP λ c=>decide (c.toNat<128)
def J2(body:aj)(F:body.length≤bI):∀(u w:aj) (m i k:Nat) (p:Int),body.drop i=u++w→i+(u++w).length=body.length→1≤k→k≤9→u.length<m→(w=[]∨k≤jU u)→
 (0<i→∃c:UInt8,body[i-1]? =some c∧p=((c.toNat:Nat):Int))→(i=0→128≤p)→
 ∃o,yn FF body m (i:Int) (k:Int)=some o∧Sum.elim id (λ _=>((0:Int),false)) o=eh k p (gZ (u++w))
 | [],w,m,i,k,p,hd,hi,h1,h9,hm,y,hp,Ho=>by
  obtain⟨m,rfl⟩:∃q,m=q+1:=⟨m-1,by omega⟩
  rcases y with rfl|y
  ·simp only[YI,Yx]at hi;refine⟨.inr (),?_,rfl⟩;simp only[yn];rw[show decide ((i:Int)<(body.length:Int))=false from Ye (by omega),Y7]
  ·simp[jU]at y;omega
 |c::u,w,m,i,k,p,hd,hi,h1,h9,hm,y,hp,Ho=>by
  obtain⟨m,rfl⟩:∃q,m=q+1:=⟨m-1,by omega⟩
  simp only[YC,Yh]at hi hm hd;unfold bI at F;have B:body[i]? =some c:=by
   have:=YP (xs:=body) (i:=i) (j:=0);rw[hd]at this;simpa using this.symm
  have A:body.drop (i+1)=u++w:=by rw[←WX,hd];rfl
  have M:=c.toNat_lt;simp only[yn];rw[show decide ((i:Int)<(body.length:Int))=true from Y2 (by omega),Y4,show decide ((0:Int)≤(i:Int))=true from Y2 (by omega),Yf,B]
  simp only[Y1,Y4,YC];rw[show gZ (c::(u++w))=((c.toNat:Nat):Int)::gZ (u++w)from rfl,eh]
  by_cases x:c.toNat<128
  ·have z:((c.toNat:Nat):Int)<128:=by omega
   rw[Y2 z,if_pos z,Y4,show IntKind.wrap IntKind.i64 ((k:Int)-1)=((k-1:Nat):Int) by rw[YF];omega]
   simp only[Y1];by_cases E:k=1
   ·subst E;rw[if_pos rfl];simp only[V7,Int.ofNat_zero,show((0:Int)==(0:Int))=true from rfl,Y4]
    by_cases C:0<i
    ·obtain⟨d,J,H⟩:=hp C;rw[show decide ((0:Int)<(i:Int))=true from Y2 (by omega),show IntKind.wrap IntKind.i64 ((i:Int)-1)=((i-1:Nat):Int) by rw[YF];omega,show decide ((0:Int)≤((i-1:Nat):Int))=true from Y2 (by omega),Yf,J,wi _ (by omega)]
     simp only[Y1,Y4];exact⟨_,rfl,by rw[H];rfl⟩
    ·rw[show decide ((0:Int)<(i:Int))=false from Ye (by omega),wi _ (by omega)]
     simp only[Y7];refine⟨_,rfl,?_⟩;rw[show decide (p<128)=false from Ye (by have:=Ho (by omega);omega)];rfl
   ·rw[if_neg E,show(((k-1:Nat):Int)==(0:Int))=false from beq_false_of_ne (by omega),Y7,yO _ (by omega)]
    refine J2 body (by unfold bI;omega) u w m (i+1) (k-1) _ A (by omega) (by omega) (by omega) (by omega) ?_ (λ _=>⟨c,by simpa using B,rfl⟩) (λ h=>by omega)
    rcases y with h|h
    ·exact .inl h
    ·refine .inr ?_;simp only[jU,Uf,Y2 x,Yz]at h⊢;omega
  ·have z:¬((c.toNat:Nat):Int)<128:=by omega
   rw[Ye z,if_neg z,Y7];simp only[Y1];rw[show((k:Int)==(0:Int))=false from beq_false_of_ne (by omega),Y7,yO _ (by omega)]
   refine J2 body (by unfold bI;omega) u w m (i+1) k _ A (by omega) (by omega) (by omega) (by omega) ?_ (λ _=>⟨c,by simpa using B,rfl⟩) (λ h=>by omega)
   rcases y with h|h
   ·exact .inl h
   ·refine .inr ?_;simp only[jU,Uf,Ye x]at h⊢;simpa using h
def O4(u w:aj)(i:(u++w).length≤bI)(j:u.length<FF)(q:w=[]∨9≤jU u):zM FF (u++w)=some (eh 9 255 (gZ (u++w))):=by
 obtain⟨o,h1,p⟩:=J2 (u++w) i u w FF 0 9 255 rfl (by simp) (by decide) (by decide) j q (λ h=>by omega) (λ _=>by decide)
 unfold zM;rw[show((0:Nat):Int)=0 from rfl,show((9:Nat):Int)=9 from rfl]at h1
 rw[h1,←p];cases o<;>rfl
def JC:∀(i:aa) (k:Nat) (p:Int) (t:aa),(∀z∈i,128≤z∧z≤255)→∃q,(i=[]→q=p)∧(i≠[]→128≤q)∧eh k p (i++t)=eh k q t
 | [],k,p,t,h=>⟨p,λ _=>rfl,λ h=>absurd rfl h,rfl⟩
 |z::i,k,p,t,h=>by
  obtain⟨q,h1,x,u⟩:=JC i k z t λ y A=>h y (Yn _ A);have o:=h z Yp
  refine⟨q,(λ e=>nomatch e),λ _=>?_,?_⟩
  ·by_cases j:i=[]
   ·rw[h1 j];exact o.1
   ·exact x j
  ·rw[YC,eh,if_neg (by omega),u]
def wz(k:Nat)(hk:2≤k)(v:Nat)(hv:v<18446744073709551616)(p:Int)(r:aa):∃q:Int,q<128∧eh k p (bH v++r)=eh (k-1) q r:=by
 obtain⟨i,y,h1, -,o,h4, -⟩:=Cs 9 v (by simp;omega)
 obtain⟨q, -, -,j⟩:=JC i k p ((y:Int)::r) o;refine⟨(y:Int),by omega,?_⟩
 rw[show bH v=i++[(y:Int)]from h1,Yo,V1,j,eh,if_pos (by omega),if_neg (by omega)]
def Zpm(v:Nat)(hv:v<18446744073709551616)(p:Int)(z:p<128)(r:aa):∃y:Int,eh 1 p (bH v++r)=(y,decide (v<128))∧(v<128→y=(v:Int)):=by
 by_cases h:v<128
 ·refine⟨(v:Int),?_,λ _=>rfl⟩;have e:bH v=[(v:Int)]:=by show eL 9 v=_;rw[eL,if_pos h]
  rw[e,V1,eh,if_pos (by omega),if_pos rfl,Y2 z,Y2 h]
 ·obtain⟨i,y,h1, -,u,h4, -⟩:=Cs 9 v (by simp;omega)
  obtain⟨q, -,A,o⟩:=JC i 1 p ((y:Int)::r) u;have j:i≠[]:=by
   rintro rfl;rw[eL,if_neg h,YQ]at h1;injection h1 with h1 _;omega
  refine⟨(y:Int),?_,λ x=>absurd x h⟩;rw[show bH v=i++[(y:Int)]from h1,Yo,V1,o,eh,if_pos (by omega),if_pos rfl,Ye (by have:=A j;omega),Ye h]
def uK(v:Nat)(hv:v<18446744073709551616):1≤jU (cv (bH v)):=by
 obtain⟨i,y,h1, -,h3,h4, -⟩:=Cs 9 v (by simp;omega)
 rw[show bH v=i++[(y:Int)]from h1]
 simp only[cv,Yj,Yy,VH,jU,VC,Uf,List.countP_nil];have:decide ((UInt8.ofNat (y:Int).toNat).toNat<128)=true:=by
  rw[Yf,VY];exact Y2 (by omega)
 rw[this];simp
def uV{n:Int}{fs:List cA}{b:aa}(h:cZ (dX n::fs)=some b):0≤n∧∃t,b=bH n.toNat++t∧cZ fs=some t:=by
 have e:dI (dX n)=if 0≤n then some (bH n.toNat)else none:=by
  unfold dI;rw[if_pos (show(dX n).Kind=1 from rfl)];rfl
 rw[cZ,e]at h;by_cases hn:0≤n
 ·rw[if_pos hn]at h;simp only at h;cases h2:cZ fs with
  |none=>rw[h2]at h;cases h
  |some t=>
   rw[h2]at h;simp only[YE,Y5]at h;exact⟨hn,t,h.symm,rfl⟩
 ·rw[if_neg hn]at h;cases h
def lR(a0 u j o p i x y q:Int):List cA:=[dX a0,dX u,dX j,dX o,dX p,dX i,dX x,dX y,dX q]
def nine{a0 B A z x p o j i:Int}{fs:List cA}{b:aa}(h:cZ (lR a0 B A z x p o j i++fs)=some b)
 (l0:a0<9223372036854775808) (l1:B<9223372036854775808) (l2:A<9223372036854775808) (l3:z<9223372036854775808) (l4:x<9223372036854775808) (l5:p<9223372036854775808) (l6:o<9223372036854775808) (l7:j<9223372036854775808) (l8:i<9223372036854775808):
 (∃y,eh 9 255 b=(y,decide (i<128))∧(i<128→y=i))∧∃u w,b=u++w∧u.length≤90∧9≤jU (cv u):=by
 simp only[lR,YC,YQ]at h;obtain⟨p0,b0,r0,h⟩:=uV h;obtain⟨p1,b1,r1,h⟩:=uV h;obtain⟨p2,b2,r2,h⟩:=uV h;obtain⟨p3,b3,R,h⟩:=uV h;obtain⟨p4,b4,r4,h⟩:=uV h;obtain⟨p5,b5,E,h⟩:=uV h;obtain⟨p6,b6,C,h⟩:=uV h;obtain⟨p7,b7,J,h⟩:=uV h;obtain⟨p8,q,X,h⟩:=uV h;subst r0;subst r1;subst r2;subst R;subst r4;subst E;subst C;subst J;subst X;constructor
 ·obtain⟨Y,e0,h0⟩:=wz 9 (by decide) a0.toNat (by omega) 255 (bH B.toNat++(bH A.toNat++(bH z.toNat++(bH x.toNat++(bH p.toNat++(bH o.toNat++(bH j.toNat++(bH i.toNat++q))))))))
  obtain⟨M,e1,h1⟩:=wz 8 (by decide) B.toNat (by omega) Y (bH A.toNat++(bH z.toNat++(bH x.toNat++(bH p.toNat++(bH o.toNat++(bH j.toNat++(bH i.toNat++q)))))))
  obtain⟨q2,e2,Z⟩:=wz 7 (by decide) A.toNat (by omega) M (bH z.toNat++(bH x.toNat++(bH p.toNat++(bH o.toNat++(bH j.toNat++(bH i.toNat++q))))))
  obtain⟨q3,e3,h3⟩:=wz 6 (by decide) z.toNat (by omega) q2 (bH x.toNat++(bH p.toNat++(bH o.toNat++(bH j.toNat++(bH i.toNat++q)))))
  obtain⟨U,e4,O⟩:=wz 5 (by decide) x.toNat (by omega) q3 (bH p.toNat++(bH o.toNat++(bH j.toNat++(bH i.toNat++q))))
  obtain⟨F,e5,h5⟩:=wz 4 (by decide) p.toNat (by omega) U (bH o.toNat++(bH j.toNat++(bH i.toNat++q)))
  obtain⟨q6,e6,h6⟩:=wz 3 (by decide) o.toNat (by omega) F (bH j.toNat++(bH i.toNat++q))
  obtain⟨Q,V,h7⟩:=wz 2 (by decide) j.toNat (by omega) q6 (bH i.toNat++q)
  obtain⟨y,T,H⟩:=Zpm i.toNat (by omega) Q V q
  refine⟨y,?_,λ h=>by rw[H (by omega)];omega⟩
  rw[h0,show 9-1=8 from rfl,h1,show 8-1=7 from rfl,Z,show 7-1=6 from rfl,h3,show 6-1=5 from rfl,O,show 5-1=4 from rfl,h5,show 4-1=3 from rfl,h6,show 3-1=2 from rfl,h7,show 2-1=1 from rfl,T]
  congr 1;rw[Ue];omega
 ·refine⟨bH a0.toNat++(bH B.toNat++(bH A.toNat++(bH z.toNat++(bH x.toNat++(bH p.toNat++(bH o.toNat++(bH j.toNat++bH i.toNat))))))),q,by simp only[Yo],?_,?_⟩
  ·have:=nL a0.toNat;have:=nL B.toNat;have:=nL A.toNat;have:=nL z.toNat;have:=nL x.toNat;have:=nL p.toNat;have:=nL o.toNat;have:=nL j.toNat;have:=nL i.toNat;simp only[Y8];omega
  ·have hc:∀(u w:aa),jU (cv (u++w))=jU (cv u)+jU (cv w):=λ u w=>by simp[jU,cv,VC]
   have:=uK a0.toNat (by omega)
   have:=uK B.toNat (by omega)
   have:=uK A.toNat (by omega)
   have:=uK z.toNat (by omega)
   have:=uK x.toNat (by omega)
   have:=uK p.toNat (by omega)
   have:=uK o.toNat (by omega)
   have:=uK j.toNat (by omega)
   have:=uK i.toNat (by omega)
   simp only[hc];omega
def ij:Nat→aa
 |0=>[]
 |n+1=>1::3::ij n
def Jj(n:Nat):(ij n).length=2*n:=by
 induction n with
 |zero=>rfl
 |succ n ih=>simp only[ij,Yh,ih];omega
def Zq(n:Nat):ij n++[1,3]=ij (n+1):=by
 induction n with
 |zero=>rfl
 |succ n ih=>rw[ij,YC,YC,ih];rfl
def jr:aa:=[1,1,1,1,1,1,1,1,1]
def sZ(n:Nat):aa:=jr++ij n++[3]
def Zpq(n:Nat):(sZ n).length=10+2*n:=by simp only[sZ,jr,Y8,Jj,Yh,Yx];omega
def ZqR(n:Nat):∀k,k∈sZ n→k=1∨k=3:=by
 have i:∀n k,k∈ij n→k=1∨k=3:=by
  intro n;induction n with
  |zero=>intro k h;cases h
  |succ n ih=>
   intro k h;simp only[ij,Yr]at h;rcases h with h|h|h
   ·exact .inl h
   ·exact .inr h
   ·exact ih k h
 intro k h;simp only[sZ,jr,YA,Yr,Vf,or_false]at h;rcases h with (h|h)|h
 ·left;omega
 ·exact i n k h
 ·exact .inr h
def s8{f:cA}(h:nf 1 f):f=dX f.N∧0≤f.N∧f.N<9223372036854775808:=by
 obtain⟨h1,⟨_,j,o,i⟩|⟨j,_⟩⟩:=h
 ·refine⟨?_,j,o⟩;cases f;simp only at h1 i;subst h1;subst i;rfl
 ·omega
def MP{f:cA}(h:nf 3 f):f=fm f.S∧f.S.length≤65536:=by
 obtain⟨h1,⟨i,_⟩|⟨_,i,j⟩⟩:=h
 ·omega
 ·refine⟨?_,j⟩;cases f;simp only at h1 i;subst h1;subst i;rfl
def qM{k:Int}{ks:aa}{fs:List cA}(h:j5 (k::ks) fs):∃f gs,fs=f::gs∧nf k f∧j5 ks gs:=by
 cases fs with
 |nil=>exact h.elim
 |cons f gs=>exact⟨f,gs,rfl,h.1,h.2⟩
def MQ:∀(n:Nat) {ks:aa} {fs:List cA},j5 (ij n++ks) fs→∃es gs,es.length=n∧fs=eH es++gs∧j5 ks gs∧∀e∈es,e.Term<9223372036854775808
 |0,ks,fs,h=>⟨[],fs,rfl,rfl,h,λ e h=>by cases h⟩
 |n+1,ks,fs,h=>by
  simp only[ij,YC]at h;obtain⟨f,fs,rfl,h1,h⟩:=qM h;obtain⟨g,fs,rfl,p,h⟩:=qM h;obtain⟨es,gs,o,rfl,q,j⟩:=MQ n h;obtain⟨e1,e2,u⟩:=s8 h1;obtain⟨x,e5⟩:=MP p;refine⟨bx.mk f.N g.S::es,gs,by simp[o],?_,q,λ e i=>?_⟩
  ·rw[eH,YC,YC];show _=dX f.N::fm g.S::_;rw[←e1,←x]
  ·rcases Yr.1 i with rfl|i
   ·exact u
   ·exact j e i
def UZ{n:Nat}{fs:List cA}(h:j5 (sZ n) fs):∃(a0 y p q x u o j i:Int) (es:List bx) (d:aj),es.length=n∧fs=lR a0 y p q x u o j i++eH es++[fm d]∧
 0≤j∧0≤i∧a0<9223372036854775808∧y<9223372036854775808∧p<9223372036854775808∧q<9223372036854775808∧x<9223372036854775808∧u<9223372036854775808∧o<9223372036854775808∧j<9223372036854775808∧i<9223372036854775808∧∀e∈es,e.Term<9223372036854775808:=by
 simp only[sZ,jr,YC,YQ]at h;obtain⟨F,fs,rfl,h0,h⟩:=qM h;obtain⟨f1,fs,rfl,h1,h⟩:=qM h;obtain⟨f2,fs,rfl,Y,h⟩:=qM h;obtain⟨E,fs,rfl,h3,h⟩:=qM h;obtain⟨f4,fs,rfl,J,h⟩:=qM h;obtain⟨f5,fs,rfl,h5,h⟩:=qM h;obtain⟨Q,fs,rfl,h6,h⟩:=qM h;obtain⟨O,fs,rfl,h7,h⟩:=qM h;obtain⟨f8,fs,rfl,T,h⟩:=qM h;obtain⟨es,gs,hn,rfl,h,z⟩:=MQ n h;obtain⟨d,gs,rfl,hd,h⟩:=qM h;cases gs with
 |cons _ _=>exact h.elim
 |nil=>
  obtain⟨e0,p0,X⟩:=s8 h0;obtain⟨e1,p1,H⟩:=s8 h1;obtain⟨e2,p2,q2⟩:=s8 Y;obtain⟨R,p3,q3⟩:=s8 h3;obtain⟨e4,p4,U⟩:=s8 J;obtain⟨e5,p5,C⟩:=s8 h5;obtain⟨e6,p6,q6⟩:=s8 h6;obtain⟨V,p7,M⟩:=s8 h7;obtain⟨Z,p8,A⟩:=s8 T;obtain⟨B,_⟩:=MP hd;refine⟨F.N,f1.N,f2.N,E.N,f4.N,f5.N,Q.N,O.N,f8.N,es,d.S,hn,?_,p7,p8,X,H,q2,q3,U,C,q6,M,A,z⟩;simp only[lR,YC,YQ];rw[←e0,←e1,←e2,←R,←e4,←e5,←e6,←V,←Z,←B]
def Rd(b:aa)(m:cj):Prop:=m.Entries.length≤127∧DQ m∧cZ (il m)=some b
def OD(m:cj):qH m=lR m.Kind m.cV m.To m.Term m.Index m.bM m.ah (iB m) (m.Entries.length:Int):=rfl
def MZ(m:cj):0≤iB m∧iB m≤1:=by unfold iB;split<;>decide
def N4:∀{ks:aa} {fs:List cA} {b:aa},(∀f∈fs,okF f)→fs.map cA.Kind=ks→(∀f∈fs,(f.Kind=1→f.S=[])∧(f.Kind=3→f.N=0))→cZ fs=some b→j5 ks fs
 |ks,[],b,_,hk,_,_=>by simp at hk;subst hk;exact trivial
 |ks,f::fs,b,ho,hk,hs,h=>by
  cases ks with
  |nil=>simp at hk
  |cons k ks=>
   simp only[Yy,Vz]at hk;simp only[cZ]at h;cases h1:dI f with
   |none=>rw[h1]at h;cases h
   |some a=>
    rw[h1]at h;cases h2:cZ fs with
    |none=>rw[h2]at h;cases h
    |some c=>
     refine⟨?_,N4 (λ f h=>ho f (Yn _ h)) hk.2 (λ f h=>hs f (Yn _ h)) h2⟩;have i:=hs f Yp
     unfold dI at h1;rcases ho f Yp with ⟨j,o⟩|j
     ·rw[if_pos j]at h1;refine⟨hk.1,.inl ⟨by omega,?_,o,i.1 j⟩⟩
      split at h1
      ·assumption
      ·cases h1
     ·rw[if_neg (by omega)]at h1
      refine⟨hk.1,.inr ⟨by omega,i.2 j,?_⟩⟩
      split at h1
      ·assumption
      ·cases h1
def Zn1(l:List bx):(eH l).map cA.Kind=ij l.length:=by
 induction l with
 |nil=>rfl
 |cons e l ih=>simp only[eH,Yy,ih,Yh,ij];rfl
def NA:∀{l:List bx} f,f∈eH l→(f.Kind=1→f.S=[])∧(f.Kind=3→f.N=0)
 | [],f,h=>by cases h
 |e::l,f,h=>by
  simp only[eH,Yr]at h;rcases h with rfl|rfl|h
  ·exact⟨λ _=>rfl,λ h=>nomatch h⟩
  ·exact⟨(λ h=>nomatch h),λ _=>rfl⟩
  ·exact NA f h
def Rd.uA{b:aa}{m:cj}(h:Rd b m):jj (sZ m.Entries.length) b (il m) []:=by
 obtain⟨h1,o,j⟩:=h;refine⟨N4 (Ox o h1) ?_ ?_ j,b,j,(YI b).symm⟩
 ·simp only[il,Yj,Zn1];rfl
 ·intro f i;simp only[il,qH,YA,Yr,Vf,or_false]at i;rcases i with ((rfl|rfl|rfl|rfl|rfl|rfl|rfl|rfl|rfl)|i)|rfl
  ·exact⟨λ _=>rfl,λ h=>nomatch h⟩
  ·exact⟨λ _=>rfl,λ h=>nomatch h⟩
  ·exact⟨λ _=>rfl,λ h=>nomatch h⟩
  ·exact⟨λ _=>rfl,λ h=>nomatch h⟩
  ·exact⟨λ _=>rfl,λ h=>nomatch h⟩
  ·exact⟨λ _=>rfl,λ h=>nomatch h⟩
  ·exact⟨λ _=>rfl,λ h=>nomatch h⟩
  ·exact⟨λ _=>rfl,λ h=>nomatch h⟩
  ·exact⟨λ _=>rfl,λ h=>nomatch h⟩
  ·exact NA f i
  ·exact⟨(λ h=>nomatch h),λ _=>rfl⟩
def Rd.nine{b:aa}{m:cj}(h:Rd b m):eh 9 255 b=((m.Entries.length:Int),true)∧∃u w,b=u++w∧u.length≤90∧9≤jU (cv u):=by
 obtain⟨h1,⟨q,l1,l2,x,z,p,o,_⟩,i⟩:=h;rw[il,OD,Yo]at i;have hy:=MZ m;obtain⟨⟨y,e1,A⟩,j⟩:=Go.T.nine i q l1 l2 x z p o (by omega) (by omega)
 refine⟨?_,j⟩;rw[e1,A (by omega),Y2 (by omega)]
def N7:∀{l l':List bx} {r i:List cA},l.length=l'.length→eH l++r=eH l'++i→l=l'∧r=i
 | [],[],r,i,_,h=>⟨rfl,h⟩
 | [],_::_,_,_,h,_=>by cases h
 |_::_,[],_,_,h,_=>by cases h
 |e::l,e'::l',r,i,h,h2=>by
  simp only[eH,YC,dX,fm,Vz,cA.mk.injEq,true_and,VD]at h2;obtain⟨o,j⟩:=N7 (by simpa using h) h2.2.2
  cases e;cases e';simp only at h2;rw[h2.1,h2.2.1,o];exact⟨rfl,j⟩
def Zo3{m j:cj}(h:m.Entries.length=j.Entries.length)(p:il m=il j):m=j:=by
 simp only[il,qH,YC,YQ,dX,Vz,cA.mk.injEq,true_and,VD]at p;obtain⟨e0,e1,z,A,B,q,y,u, -,C⟩:=p;obtain⟨x,i⟩:=N7 h C;simp only[fm,Vz,cA.mk.injEq,true_and,VD]at i;have o:m.mc=j.mc:=by
  unfold iB at u;cases h1:m.mc<;>cases p:j.mc<;>simp[h1,p]at u<;>rfl
 cases m;cases j;simp only at e0 e1 z A B q y x i o;rw[e0,e1,z,A,B,q,y,x,i,o]
def Rd.uniq{b:aa}{m i:cj}(h:Rd b m)(o:Rd b i):m=i:=by
 have h1:=h.nine.1;have p:=o.nine.1;rw[h1]at p;have q:m.Entries.length=i.Entries.length:=by
  simp only[WV,VD]at p;omega
 have j:=h.uA;rw[q]at j;exact Zo3 q (Ci j o.uA).1
def AG{n:Nat}{b:aa}{fs:List cA}(hn:n≤127)(h:jj (sZ n) b fs []):∃(i j:Int),(fs[7]?).map cA.N=some i∧(fs[8]?).map cA.N=some j∧0≤i∧0≤j∧
 (∃y,eh 9 255 b=(y,decide (j<128))∧(j<128→y=j))∧(i≤1→j=(n:Int)→∃m,Rd b m∧fs=il m∧m.Entries.length=n):=by
 obtain⟨X,a,p,Q⟩:=h;rw[YI]at Q;subst Q;obtain⟨a0,B,u,x,A,z,q,i,j,es,d,o,rfl,Y,p8,H,E,O,M,F,C,J,T,R,Z⟩:=UZ X;refine⟨i,j,rfl,rfl,Y,p8,?_,λ h7 U=>?_⟩
 ·rw[Yo]at p;exact(nine p H E O M F C J T R).1
 ·have e:lR a0 B u x A z q i j++eH es++[fm d]=il (cj.mk a0 B u x A z q (i==1) es d):=by
   have V:iB (cj.mk a0 B u x A z q (i==1) es d)=i:=by
    unfold iB;by_cases h1:i=1
    ·subst h1;rfl
    ·have:(i==1)=false:=beq_false_of_ne h1;simp only[this];simp;omega
   rw[il,OD,V,U];simp only[o]
  rw[e]at p⊢;exact⟨_,⟨by simp only[o];exact hn,⟨H,E,O,M,F,C,J,Z⟩,p⟩,rfl,o⟩
def Zo4{m:cj}{j:Nat}{e:bx}(h:m.Entries[j]? =some e):(il m)[9+2*j]? =some (dX e.Term)∧(il m)[10+2*j]? =some (fm e.Data):=by
 have p:∀(l:List bx) (r:List cA) (j:Nat) (e:bx),l[j]? =some e→(eH l++r)[2*j]? =some (dX e.Term)∧(eH l++r)[2*j+1]? =some (fm e.Data):=by
  intro l;induction l with
  |nil=>intro r j e h;simp at h
  |cons x l ih=>
   intro r j e h;cases j with
   |zero=>simp at h;subst h;exact⟨rfl,rfl⟩
   |succ j=>
    simp only[Va]at h;have:=ih r j e h;rw[show 2*(j+1)=2*j+1+1 by omega]
    exact this
 obtain⟨h1,o⟩:=p m.Entries [fm m.Data] j e h;rw[il,Yo];have i:(qH m).length=9:=rfl;constructor
 ·rw[Yl (by omega),i,show 9+2*j-9=2*j by omega,h1]
 ·rw[Yl (by omega),i,show 10+2*j-9=2*j+1 by omega,o]
def Znv(m:cj):(il m)[(il m).length-1]? =some (fm m.Data):=by
 have h:=CL m;rw[il]at h⊢;rw[Y8,W9,Nat.add_sub_cancel,Yl (Yg _),V7];rfl
def MT(m:cj)(hn:m.Entries.length≤127):∀(r:List bx) (q i:Nat) (l:List bx),m.Entries.drop i=r→i+r.length=m.Entries.length→r.length<q→l.length+r.length≤1000→
 yo FF (il m) (m.Entries.length:Int) q (i:Int) l=some (l++r)
 | [],q,i,l,hd,hi,hq,hl=>by
  obtain⟨q,rfl⟩:∃p,q=p+1:=⟨q-1,by omega⟩
  simp only[Yx]at hi;simp only[yo];rw[show decide ((i:Int)<(m.Entries.length:Int))=false from Ye (by omega),Y7]
  simp
 |e::r,q,i,l,hd,hi,hq,hl=>by
  obtain⟨q,rfl⟩:∃p,q=p+1:=⟨q-1,by omega⟩
  simp only[Yh]at hi hq hl;have z:m.Entries[i]? =some e:=by
   have:=YP (xs:=m.Entries) (i:=i) (j:=0);rw[hd]at this;simpa using this.symm
  have o:m.Entries.drop (i+1)=r:=by rw[←WX,hd];rfl
  obtain⟨A,u⟩:=Zo4 z;simp only[yo];have y:IntKind.wrap IntKind.i64 ((2:Int)*(i:Int))=((2*i:Nat):Int):=by rw[YF];omega
  have B:IntKind.wrap IntKind.i64 ((9:Int)+((2*i:Nat):Int))=((9+2*i:Nat):Int):=by rw[YF];omega
  have x:IntKind.wrap IntKind.i64 ((10:Int)+((2*i:Nat):Int))=((10+2*i:Nat):Int):=by rw[YF];omega
  rw[show decide ((i:Int)<(m.Entries.length:Int))=true from Y2 (by omega),Y4,y,B,x,show decide ((0:Int)≤((9+2*i:Nat):Int))=true from Y2 (by omega),show decide ((0:Int)≤((10+2*i:Nat):Int))=true from Y2 (by omega),Yf,Yf,A,u]
  simp only[Y1,Y4];rw[show decide (l.length+1≤bI)=true from Y2 (by unfold bI;omega),Y4,yO _ (by omega),MT m hn r q (i+1) _ o (by omega) (by omega) (by simp;omega)]
  simp[dX,fm]
def Xu(m:cj)(hn:m.Entries.length≤127):CS FF (il m) (m.Entries.length:Int)=some (m.Kind,m.cV,m.To,m.Term,m.Index,m.bM,m.ah,m.mc,m.Data,m.Entries):=by
 have hl:=CL m;have h0:=MT m hn m.Entries FF 0 [] (by simp) (by simp) (by show _<4000000;omega) (by simp;omega)
 rw[show((0:Nat):Int)=0 from rfl,YQ]at h0
 have w:IntKind.wrap IntKind.i64 (((il m).length:Int)-1)=(((il m).length-1:Nat):Int):=by rw[YF];omega
 have i:(iB m==1)=m.mc:=by unfold iB;cases m.mc<;>rfl
 unfold CS;rw[show(il m)[(0:Int).toNat]? =some (dX m.Kind)from rfl,show(il m)[(1:Int).toNat]? =some (dX m.cV)from rfl,show(il m)[(2:Int).toNat]? =some (dX m.To)from rfl,show(il m)[(3:Int).toNat]? =some (dX m.Term)from rfl,
  show(il m)[(4:Int).toNat]? =some (dX m.Index)from rfl,show(il m)[(5:Int).toNat]? =some (dX m.bM)from rfl,show(il m)[(6:Int).toNat]? =some (dX m.ah)from rfl,show(il m)[(7:Int).toNat]? =some (dX (iB m))from rfl]
 simp only[Y1,Ya];rw[w,show decide ((0:Int)≤(((il m).length-1:Nat):Int))=true from Y2 (by omega),Y4,Yf,Znv]
 simp only[Y1];rw[h0];simp only[Y1,dX,fm,i]
def ML(y:Int×Bool)(n:Nat)(hn:n≤127)(j:y.1=(n:Int)):∀(k q i:Nat),i+k=n→k<q→
 yr FF y q (i:Int) (jr++ij i)=some (jr++ij n)
 |0,q,i,hi,hq=>by
  obtain⟨q,rfl⟩:∃p,q=p+1:=⟨q-1,by omega⟩
  simp only[yr];rw[j,show decide ((i:Int)<(n:Int))=false from Ye (by omega),Y7,show i=n by omega]
 |k+1,q,i,hi,hq=>by
  obtain⟨q,rfl⟩:∃p,q=p+1:=⟨q-1,by omega⟩
  simp only[yr];rw[j,show decide ((i:Int)<(n:Int))=true from Y2 (by omega),Y4,show decide ((jr++ij i).length+2≤bI)=true from Y2 (by simp only[Y8,Jj,jr,Yh,Yx];unfold bI;omega),Y4,yO _ (by omega),Yo,Zq]
  exact ML y n hn j k q (i+1) (by omega) (by omega)
def Ol:∀(k:Nat) (p:Int) (b:aa),dw b→0≤(eh k p b).1∧(eh k p b).1<128
 |k,p,[],h=>by simp[eh]
 |k,p,c::r,h=>by
  have o:=h c Yp;have i:=λ k p=>Ol k p r λ y j=>h y (Yn _ j);rw[eh];split
  ·split
   ·exact⟨o.1,by assumption⟩
   ·exact i _ _
  ·exact i _ _
def As:cj:=cj.mk 0 0 0 0 0 0 0 false [] []
def Xv(body:aj)(F:body.length≤bI)(O:body.length<FF∨∃m,Rd (gZ body) m):
 (∃m,Rd (gZ body) m∧yb FF body=some (m,0))∨((∀m,¬Rd (gZ body) m)∧yb FF body=some (As,21)):=by
 have C:dw (gZ body):=Mo body;have Q:(gZ body).length≤1073741824:=by rw[vV];exact F
 have B:zM FF body=some (eh 9 255 (gZ body)):=by
  rcases O with O|⟨m,p⟩
  ·have:=O4 body [] (by simpa using F) O (.inl rfl)
   simpa using this
  ·obtain⟨-,u,w,h1,E,Z⟩:=p.nine;have e:body=cv u++cv w:=by
    have:=YU cv h1;rw[Znz]at this;rw[this];simp[cv]
   have:=O4 (cv u) (cv w) (by rw[←e];exact F) (by simp only[cv,Ya];show u.length<4000000;omega) (.inr Z)
   rw[←e]at this;exact this
 have V:=Ol 9 255 (gZ body) C;unfold yb;rw[B];simp only[Y1];by_cases i:(eh 9 255 (gZ body)).2=true
 ·rw[i];obtain⟨n,hn⟩:∃n:Nat,(eh 9 255 (gZ body)).1=(n:Int):=⟨(eh 9 255 (gZ body)).1.toNat,by omega⟩
  have A:=ML (eh 9 255 (gZ body)) n (by omega) hn n FF 0 (by omega) (by show n<4000000;omega)
  simp only[ij,YI,jr]at A;rw[show((0:Nat):Int)=0 from rfl]at A
  simp only[YV,Y7];rw[A];simp only[Y1];have Bo:=Zpq n;rw[show decide ((([1,1,1,1,1,1,1,1,1]:aa)++ij n).length+1≤bI)=true from Y2 (by simp only[Y8,Jj,Yh,Yx];unfold bI;omega),Y4,show decide (body.length≤bI)=true from Y2 F,Y4,
   show([1,1,1,1,1,1,1,1,1]:aa)++ij n++[3]=sZ n from rfl,show List.map (λ(b:UInt8)=>(((UInt8.toNat b):Nat):Int)) body=gZ body from rfl]
  rcases Fl (sZ n) (gZ body) (by omega) (ZqR n) C Q with ⟨fs,h1,E⟩|⟨h1,e,he,E⟩
  ·obtain⟨a7,T,z,e8,p7,p8,⟨y,U,H⟩,R⟩:=AG (by omega) h1
   have Y:T=(n:Int):=by
    rw[U]at i hn;simp only[YB]at i hn;rw[H i]at hn;exact hn
   rw[E];simp only[Y1,show((0:Int) != (0:Int))=false from rfl,Y7]
   cases q:fs[7]? with
   |none=>rw[q]at z;cases z
   |some f7=>
    rw[q]at z;simp only[YE,Y5]at z;rw[show fs[(7:Int).toNat]? =some f7 from q]
    simp only[Y1,z];by_cases X:a7≤1
    ·obtain⟨m,p,M,o⟩:=R X Y;rw[Ye (by omega),Y7,hn,M,←o,Xu m (by omega)]
     exact .inl ⟨m,p,rfl⟩
    ·rw[Y2 (by omega),Y4]
     refine .inr ⟨λ m p=>?_,rfl⟩;have x:=p.nine.1
     have o:m.Entries.length=n:=by rw[x]at hn;simp only at hn;omega
     have j:=p.uA;rw[o]at j;have:=(Ci h1 j).1;rw[this]at q;have J:(il m)[7]? =some (dX (iB m)):=rfl;rw[J]at q;injection q with q;have:=MZ m;rw[←q]at z;simp only[dX]at z;omega
  ·rw[E];simp only[Y1,show(e != (0:Int))=true by simpa using he,Y4]
   refine .inr ⟨λ m p=>?_,rfl⟩;have x:=p.nine.1
   have o:m.Entries.length=n:=by rw[x]at hn;simp only at hn;omega
   have j:=p.uA;rw[o]at j;exact h1 _ j
 ·have i:(eh 9 255 (gZ body)).2=false:=by simpa using i
  rw[i];refine .inr ⟨λ m p=>?_,rfl⟩;rw[p.nine.1]at i;cases i
def ZC{m:cj}(j:DQ m)(h:iN m≠[]):Rd (gZ (iN m)) m∧(iN m).length≤bI:=by
 unfold iN at h⊢;split at h
 ·exact absurd rfl h
 ·rename_i hn;rw[if_neg hn];split at h
  ·rename_i b o;have i:=zE o;have p:=zF o;rw[CL]at p;rw[Cw i];refine⟨⟨by omega,j,o⟩,?_⟩
   simp only[cv,Ya];unfold bI;omega
  ·exact absurd rfl h
def fh(P:Lg):Int:=((P.filter λ e=>!(e.Data==([]:aj))).length:Int)
def fj(P:Lg):Int:=P.foldl (λ s e=>oq s (gZ e.Data)) 0
def X9(s:Int)(b:aa):0≤oq s b∧oq s b<4294967296:=by
 unfold oq cC;rw[IntKind.wrap_u32];omega
def Js(P:Lg)(e:bx):fj (P++[e])=oq (fj P) (gZ e.Data):=by unfold fj;rw[List.foldl_append];rfl
def ZS(P:Lg):0≤fj P∧fj P<4294967296:=by
 rcases List.eq_nil_or_concat P with rfl|⟨Q,e,rfl⟩
 ·exact⟨by decide,by decide⟩
 ·rw[List.concat_eq_append,Js];exact X9 _ _
def ES(P:Lg)(e:bx):fh (P++[e])=if(!(e.Data==([]:aj)))=true then fh P+1 else fh P:=by
 unfold fh;rw[List.filter_append,Y8];by_cases q:(!(e.Data==([]:aj)))=true
 ·rw[if_pos q];simp only[WN,q,Yz,List.filter_nil,W9];omega
 ·rw[if_neg q];simp only[WN,q,YN,Ym,List.filter_nil,Yx];omega
def Jg(P:Lg):0≤fh P∧fh P≤P.length:=by
 unfold fh;have:=Vj (λ e:bx=>!(e.Data==([]:aj))) P;omega
def Sn(P:Lg)(s:aj):Prop:=s.length≤60000∧su FF s=some (fh P,fj P)
def SY:Sn [] []:=⟨by decide,by kernel_rfl⟩
def Uu(P:Lg)(hP:P.length≤4000000000000)(rf:bD)(t:Int)(k:bD)(fs:Fs)(l:List bP)(f:aj)(a b:Int):∃s,CE FF rf (fh P) (fj P) t k fs l f a b=some s∧Sn P s:=by
 have C:=Jg P;have B:=ZS P;have p:n63 (fh P):=⟨C.1,by omega⟩
 have u:n63 (fj P):=⟨B.1,by omega⟩
 have o:j5 [1,1] [fN (fh P),fN (fj P)]:=⟨js p,js u,trivial⟩;obtain⟨y,j⟩:=I1 o;have e:=E2 [fN (fh P),fN (fj P)] (IJ o) (by simp)
 rw[j]at e;have i:=zE j;have hl:y.length≤20:=by
  have e1:∀n,n63 n→dI (fN n)=some (bH n.toNat):=λ n h=>by
   rcases xD (js h)with ⟨-,e, -⟩|⟨e, -⟩
   ·exact e
   ·cases e
  simp only[cZ]at j;rw[e1 _ p,e1 _ u]at j;simp only[YE,Y5]at j;have h1:=(nL (fh P).toNat).2;have A:=(nL (fj P).toNat).2;rw[←j];simp only[Y8,Yx];omega
 have z:jj [1,1] y [fN (fh P),fN (fj P)] []:=⟨o,y,j,by simp⟩
 refine⟨cv y,?_,?_,?_⟩
 ·unfold CE;rw[dj (x:=fj P) (by omega) (by omega)]
  show Option.bind (sx FF [fN (fh P),fN (fj P)]) _=_;rw[e,Y1];simp only[Kb i,Y4]
 ·have:(gZ (cv y)).length=y.length:=by rw[Cw i]
  rw[vV]at this;omega
 ·have q:(cv y).length=y.length:=by
   have:(gZ (cv y)).length=y.length:=by rw[Cw i]
   rw[vV]at this;exact this
  unfold su;rw[Y2 (by rw[q];unfold bI;omega),Y4]
  show Option.bind (lL FF [1,1] (gZ (cv y))) _=_;rw[Cw i];rcases Fl [1,1] y (by decide) (by simp) i (by omega)with ⟨fs,h1,A⟩|⟨h1, -⟩
  ·rw[A,(Ci h1 z).1];simp only[Y1,U7,Y7,WJ,Yv,Int.toNat_one,Va];simp only[fN];rw[IntKind.wrap_u32];congr 2;omega
  ·exact absurd z (h1 _)
structure NC(l:Lg)(n7 n8:aa):Prop where
 l7:n7.length=l.length+1
 l8:n8.length=l.length+1
 c7:∀k≤l.length,n7[k]? =some (fh (l.take k))
 c8:∀k≤l.length,n8[k]? =some (fj (l.take k))
def TI:NC [] [0] [0]:=⟨rfl,rfl,λ k h=>by simp at h;subst h;rfl,λ k h=>by simp at h;subst h;rfl⟩
def NC.app{l:Lg}{n7 n8:aa}(h:NC l n7 n8)(e:bx):NC (l++[e]) (n7++[fh (l++[e])]) (n8++[fj (l++[e])]):=by
 have h7:=h.l7;have h8:=h.l8;refine⟨by simp;omega,by simp;omega,λ k i=>?_,λ k i=>?_⟩<;>simp only[Y8,W9]at i
 ·by_cases q:k≤l.length
  ·rw[Yt (by omega),W4 q];exact h.c7 k q
  ·rw[Yl (by omega),show k-n7.length=0 by omega,Yk (by simp;omega)];rfl
 ·by_cases q:k≤l.length
  ·rw[Yt (by omega),W4 q];exact h.c8 k q
  ·rw[Yl (by omega),show k-n8.length=0 by omega,Yk (by simp;omega)];rfl
section
variable (c:aa)(gs:List (Int×ai))(gk last:Int)(tb:Bool)(n9:List da)(rf:bD)(eA sum:Int)(n10:List cD)(m:List (ax×Int))(eK:Int)(k:bD)(fs:Fs)(w:List bP)(f:aj)(x y:Int)
def TL{l:Lg}{n7 n8:aa}(h:NC l n7 n8)(hl:l.length≤100000000)(i:Nat)(hi:i≤l.length)(e:bx)(E:i<l.length→l[i]? =some e)(hd:e.Data.length≤4096):
 dh (Di FF ((i:Int)+1) e c false gs gk last tb l n7 n8 n9 rf eA sum n10 m eK k fs w f x y) λ r=>∃A l' o p,r=(c,false,last,A,eK,l',o,p,n9,n10,w)∧NC l' o p∧l'=(if i<l.length then l else l++[e]):=by
 have h7:=h.l7;have h8:=h.l8;unfold Di;refine cq (λ q=>?_) λ q=>?_
 ·have j:i<l.length:=by omega
  rw[dj (by omega) (by omega),show(i:Int)+1-1=(i:Int) by omega]
  simp only[Y7,Yf];rw[E j];simp only[Y1,Y2 (by omega:(0:Int)≤(i:Int)),Y4,WS,Bool.and_self,YV]
  exact .ret ⟨_,_,_,_,rfl,h,by rw[if_pos j]⟩
 ·have j:i=l.length:=by omega
  subst j;rw[dj (by omega) (by omega),show(((l.length:Int)+1)==((l.length:Int)+1))=true by simp,Y4,Ya,Yf]
  have B:=h.c7 l.length (Yg _);have C:=h.c8 l.length (Yg _);rw[W7]at B C;rw[B,C];simp only[Y1];have F:=Jg l;refine bh (Q:=λ z=>z=fh (l++[e])) (bu (λ q=>.ret ?_) λ q=>.ret ?_) λ z _ u=>?_
  ·rw[dj (by omega) (by omega),ES,if_pos q]
  ·rw[ES,if_neg (by rw[q];simp)]
  subst u;refine bV (by unfold bI;omega) (bV (by unfold bI;omega) (bV (by unfold bI;omega) (bh (Q:=λ z=>z=(fj (l++[e]),true)) ?_ λ z _ u=>bV (by unfold bI;omega) ?_)))
  ·unfold zV;refine bV (by rw[Ya];unfold bI;omega) (.ret ?_)
   rw[Js];rfl
  ·subst u;exact .ret ⟨_,_,_,_,rfl,h.app e,by rw[if_neg (by omega)]⟩
def UC{l G:Lg}{n7 n8:aa}{r:bD}{o:Int}(h:NC l n7 n8)(hG:G.length≤90000000)(U:l<+:G)(V:BY r)(hf:0≤o)(oc:o≤l.length)(Ea:o≤r.ah)(Ee:r.ah≤G.length)(iG:(dW G r.Trail).take r.ah.toNat=G.take r.ah.toNat)(F:G=l∨(G.length:Int)=r.ah)
 (hb:o<r.Trail.an→r.Trail.an≤l.length∧Sn (G.take r.Trail.an.toNat) r.bj):
 dh (Df FF o c false r (fh (G.take o.toNat)) (fj (G.take o.toNat)) gs gk last tb l n7 n8 n9 eK k n10 m fs w f x y) λ q=>∃A p u,q=(c,false,r,fh (G.take r.ah.toNat),fj (G.take r.ah.toNat),last,A,eK,G,p,u,n9,n10,w)∧NC G p u:=by
 have T:=V.tr;have b0:=T.b0;have bl:=T.last;have c0:=V.SQ;have c1:=V.LU;have h7:=h.l7;have h8:=h.l8;have RC:=U.length_le;have Z:∀j≤l.length,G.take j=l.take j:=λ j hj=>tj U hj;unfold Df
 refine bh (Q:=λ z:Int×Bool×Int×Int=>∃j:Nat,z=((j:Int),false,fh (G.take j),fj (G.take j))∧r.Trail.an≤(j:Int)∧(j:Int)≤r.ah∧j≤l.length) (cq (λ a=>?_) λ a=>.ret ⟨o.toNat,by rw[Vt hf],by omega,by omega,by omega⟩) λ z _ M=>?_
 ·obtain⟨lB, -,Y⟩:=hb a;have e7:=h.c7 r.Trail.an.toNat (by omega);have e8:=h.c8 r.Trail.an.toNat (by omega)
  rw[←Z _ (by omega)]at e7 e8
  refine bJ Y ?_;simp only[Y7];rw[Ye (by omega:¬((n7.length:Nat):Int)≤r.Trail.an),Y7,e7,e8]
  simp only[Y1,Y2 b0,Y4,U7,Y7];exact .ret ⟨r.Trail.an.toNat,by rw[Vt b0],by omega,by omega,by omega⟩
 obtain⟨j,rfl,j1,j2,j3⟩:=M;simp only;rw[w1 (by omega)]
 have key:=dM (λ n (s:Nat×Bool×Lg×aa×aa)=>Af FF r gs gk k m fs f x y n ((s.1+1:Nat):Int) c false (fh (G.take s.1)) (fj (G.take s.1)) last s.2.1 eK s.2.2.1 s.2.2.2.1 s.2.2.2.2 n9 n10 w)
  (λ s=>j≤s.1∧(s.1:Int)≤r.ah∧NC s.2.2.1 s.2.2.2.1 s.2.2.2.2∧s.2.2.1<+:G∧s.1≤s.2.2.1.length∧(s.2.2.1=l∨s.2.2.1.length=s.1)∧l.length≤s.2.2.1.length) (λ s=>(r.ah-s.1).toNat)
  (λ q=>∃A p u,q=(c,false,fh (G.take r.ah.toNat),fj (G.take r.ah.toNat),last,A,eK,G,p,u,n9,n10,w)∧NC G p u) (by
   rintro n ⟨i,tb,a,m7,m8⟩ ⟨g1,g2,g3,H,X,g6,g7⟩ kk;simp only at g1 g2 g3 H X g6 g7 kk⊢;have O:=H.length_le;simp only[Af];refine cq (λ z=>?_) λ z=>.ret ?_
   ·rw[show IntKind.wrap IntKind.i64 (((i+1:Nat):Int)-r.Trail.an)=((i+1:Nat):Int)-r.Trail.an from dj (by omega) (by omega),dj (x:=((i+1:Nat):Int)-r.Trail.an-1) (by omega) (by omega)]
    refine bV (by omega) (cM (by omega) λ e he R6=>?_)
    have hd:=(T.mQ e R6).2.2;have J:G[i]? =some e:=by
     have q1:(dW G r.Trail)[i]? =some e:=by
      rw[show i=r.Trail.an.toNat+(i-r.Trail.an.toNat) by omega,B7 b0 (by omega),←he];congr 1;omega
     have q2:=YU (λ l:Lg=>l[i]?) iG;simp only[WU (show i<r.ah.toNat by omega)]at q2
     rw[←q2];exact q1
    have hcr:=Jg (G.take i);have C:G.take (i+1)=G.take i++[e]:=by rw[W8,J];rfl
    have iU:(G.take i).length≤90000000:=by rw[Y9];omega
    refine bh (Q:=λ z=>z=fh (G.take (i+1))) (bu (λ q=>.ret ?_) λ q=>.ret ?_) λ z _ M=>?_
    ·rw[dj (by omega) (by omega),C,ES,if_pos q]
    ·rw[C,ES,if_neg (by rw[q];simp)]
    subst M;refine bV (by unfold bI;omega) (bh (Q:=λ z=>z=(fj (G.take (i+1)),true)) ?_ λ z _ M=>?_)
    ·unfold zV;refine bV (by rw[Ya];unfold bI;omega) (.ret ?_)
     rw[C,Js];rfl
    subst M;have B:=TL c gs gk last true n9 r (fh (G.take (i+1))) (fj (G.take (i+1))) n10 m eK k fs w f x y g3 (by omega) i X e (λ hi=>by rw[EY H hi];exact J) hd
    rw[show(i:Int)+1=((i+1:Nat):Int) by omega]at B
    refine bh B λ q _ hq=>?_;obtain⟨A,l',p,u,rfl,hN,E⟩:=hq
    simp only;rw[w1 (by omega)]
    refine kk (i+1,A,l',p,u) ⟨by simp only;omega,by simp only;omega,hN,?_,?_,?_,by rw[E];simp only;split<;>(try rw[Y8])<;>omega⟩ (by simp only;omega)
    ·rw[E];simp only;split
     ·exact H
     ·have:a=G.take i:=(EM H (by omega)).symm
      rw[this,←C];exact Wp ..
    ·rw[E];simp only;split
     ·omega
     ·simp;omega
    ·rw[E];simp only;rcases g6 with q|q
     ·by_cases z2:i<a.length
      ·rw[if_pos z2];exact .inl q
      ·rw[if_neg z2];right;simp;omega
     ·rw[if_neg (by omega)];right;simp;omega
   ·have Lv:r.ah=(i:Int):=by omega
    have R:a=G:=by
     rcases g6 with q|q
     ·rcases F with F|F
      ·rw[q,F]
      ·rw[q]at X O⊢;exact U.eq_of_length (by omega)
     ·rcases F with F|F
      ·exact H.eq_of_length (by rw[F]at O⊢;omega)
      ·exact H.eq_of_length (by omega)
    subst R;rw[Lv,Yf];exact⟨_,_,_,rfl,g3⟩) FF (j,tb,l,n7,n8) ⟨Yg _,j2,h,U,j3,.inl rfl,Yg _⟩ (by have:=T.len;simp only[FF];omega)
 refine bh key λ q _ hq=>?_;obtain⟨A,p,u,rfl,hN⟩:=hq
 exact .ret ⟨_,_,_,rfl,hN⟩
end
def Zz{m:cj}(h:MB m){body:aj}(e:body=iN m)(hl:body.length≤65536):∃z o,yb FF body=some (z,o)∧(o=0→z=m):=by
 have x:body.length<FF:=by simp only[FF];omega
 rcases Xv body (by unfold bI;omega) (.inl x)with ⟨p,h1,i⟩|⟨h1,i⟩
 ·refine⟨p,0,i,λ _=>?_⟩;have j:iN m≠[]:=λ q=>by
   rw[e,q]at h1;obtain⟨-, -,u⟩:=h1;have:=(zF u).1;rw[CL]at this;simp[gZ]at this
  have:=(ZC (m:=m) h j).1;rw[←e]at this;exact h1.uniq this
 ·exact⟨_,_,i,λ q=>by cases q⟩
structure PQ(ag:aa)(w:Wd)(l:List cD):Prop where
 pk:PK l
 ms:∀p∈l,∃m,iA Sn ag w m∧MB m∧p.Body=iN m
def PQ.ext{ag:aa}{i:Int}{w w':Wd}{l:List cD}(h:PQ ag w l)(e:Ext i w w'):PQ ag w' l:=⟨h.pk,λ p j=>by
 obtain⟨m,a,b⟩:=h.ms p j;exact⟨m,a.ext e,b⟩⟩
def PQ.sub{ag:aa}{w:Wd}{l l':List cD}(h:PQ ag w l)(h1:PK l')(o:∀p∈l',p∈l∨∃q∈l,p.Body=q.Body):PQ ag w l':=⟨h1,λ p j=>by
 rcases o p j with q|⟨q,u,i⟩
 ·exact h.ms p q
 ·rw[i];exact h.ms q u⟩
def UY{ag:aa}{w:Wd}(fr i:Int)(m:cj)(c:Int)(l:List cD)(ct:List (ax×Int))(h:PQ ag w l)(o:iA Sn ag w m)(p:MB m):dh (C0 FF fr i (iN m) c l ct) λ y=>PQ ag w y.2.2.2:=by
 unfold C0 ym;refine cq (λ _=>.ret h) λ a=>bh (Q:=λ y:Int×Int×Int×List cD=>PQ ag w y.2.2.2) (cq (λ _=>.ret h) λ z=>bV (by unfold bI;omega) (.ret ⟨⟨by simp;omega,λ q j=>?_⟩,λ q j=>?_⟩)) λ y _ u=>.ret u
 ·rcases YA.1 j with e|e
  ·exact h.pk.2 q e
  ·simp only[Yu]at e;subst e;show(iN m).length≤_;omega
 ·rcases YA.1 j with e|e
  ·exact h.ms q e
  ·simp only[Yu]at e;subst e;exact⟨m,o,p,rfl⟩
def TT{ag:aa}{w:Wd}{i:Int}(out:List cj)(ct:List (ax×Int))(c:Int)(l:List cD)(ho:out.length≤1000)(j:∀x∈out,ff Sn ag w i x)(h:PQ ag w l):dh (vh FF out ct FF 0 c l) λ y=>PQ ag w y.2:=by
 have:=dM (λ n (s:Nat×Int×List cD)=>vh FF out ct n (s.1:Int) s.2.1 s.2.2) (λ s=>s.1≤out.length∧PQ ag w s.2.2) (λ s=>out.length-s.1) (λ y=>PQ ag w y.2) (by
  rintro n ⟨i,c,l⟩ ⟨h1,p⟩ k;simp only at h1 p k⊢;simp only[vh];refine cq (λ a=>?_) λ _=>.ret p;refine bV (by omega) (cM (by simp;omega) λ x _ o=>bJ (XB x (j x o).mb) (bh (UY _ _ x c l ct p (j x o).ok (j x o).mb) λ y _ q=>?_))
  rw[w1 (by omega)]
  exact k (i+1,y.2.2.1,y.2.2.2) ⟨by simp only;omega,q⟩ (by simp only;omega)) FF (0,c,l) ⟨YL _,h⟩ (by simp only[FF];omega)
 exact this
def mf(ag:aa)(w:Wd)(i:Int):ai→Prop
 |.inl d=>∃rs,SD i ag d.total d.files d.waits rs∧(RK (fold (r0 i ag) rs)→jI Sn ag w i (fold (r0 i ag) rs).Term (fold (r0 i ag) rs).bn (fold (r0 i ag) rs).Trail (fold (r0 i ag) rs).bj)
 |.inr u=>∃rs f n X,SU i ag u.kept rs f n X∧u.file=bd f∧u.last=((n:Nat):Int)∧u.bZ=(rs.length:Int)∧u.total=(X.length:Int)∧u.files=[(bd f,X)]∧u.waits=[]∧u.kept=jF u.bR∧NO Sn ag w u.bR∧u.bR.Id=i∧u.count=fh (w.G.take u.bR.ah.toNat)∧u.sum=fj (w.G.take u.bR.ah.toNat)
def NO.ext{ag:aa}{i:Int}{w w':Wd}{r:bD}(j:CO ag)(h:NO Sn ag w r)(e:Ext i w w')(hj:r.Id≠i):NO Sn ag w' r:=⟨h.rk,h.ho.ext e hj,h.ro.ext h.ho e hj (by have:=j.ps _ h.hn.id;show r.Id≠0;have:1≤r.Id:=this;omega),h.cf⟩
def mf.ext{ag:aa}{i j:Int}{w w':Wd}{x:ai}(F:CO ag)(h:mf ag w j x)(e:Ext i w w')(hj:j≠i):mf ag w' j x:=by
 cases x with
 |inl d=>
  obtain⟨rs,a,b⟩:=h;exact⟨rs,a,λ q=>(b q).ext e hj⟩
 |inr u=>
  obtain⟨rs,f,n,X,O,E,H,J,C,Q,R,M,B,o,p,y⟩:=h;have z:=B.ho.cG;have A:w'.G.take u.bR.ah.toNat=w.G.take u.bR.ah.toNat:=e.take (by show u.bR.ah.toNat≤_;have:u.bR.ah≤(w.G.length:Int):=z;omega)
  exact⟨rs,f,n,X,O,E,H,J,C,Q,R,M,B.ext F e (by rw[o];exact hj),o,by rw[A];exact p,by rw[A];exact y⟩
section
variable {κ ν:Type}[DecidableEq κ]
def xW{p q:κ}{x:ν}(h:p≠q):∀(l:List (κ×ν)),az p (bW q x l)=az p l
 | []=>by simp[bW,az,h]
 |e::r=>by
  simp only[bW];by_cases k:q=e.1
  ·rw[if_pos k];simp only[az];rw[if_neg h,if_neg (λ z=>h (z.trans k.symm))]
  ·rw[if_neg k];simp only[az];by_cases z:p=e.1
   ·rw[if_pos z,if_pos z]
   ·rw[if_neg z,if_neg z,xW h r]
def wy{q:κ}{x:ν}:∀(l:List (κ×ν)),az q (bW q x l)=some x
 | []=>by simp[bW,az]
 |e::r=>by
  simp only[bW];by_cases k:q=e.1
  ·rw[if_pos k];simp[az]
  ·rw[if_neg k];simp only[az];rw[if_neg k,wy r]
end
def LR(w:Wd)(l:List da):Prop:=(∀x∈l,w.g.el x.At=x.Id∧x.Id≠0)∧l.Pairwise (λ a b=>a.At≠b.At)
def LR.ext{i:Int}{w w':Wd}{l:List da}(h:LR w l)(e:Ext i w w'):LR w' l:=⟨λ x j=>by
 obtain⟨a,b⟩:=h.1 x j;exact⟨by rw[e.Eo (by rw[a];exact b)];exact a,b⟩,h.2⟩
def LR.add{w:Wd}{l:List da}(h:LR w l){x:da}(j:w.g.el x.At=x.Id∧x.Id≠0)(hn:∀y∈l,y≠x):LR w (l++[x]):=by
 refine⟨λ y p=>?_,List.pairwise_append.2 ⟨h.2,List.pairwise_singleton ..,λ a i b o=>?_⟩⟩
 ·rcases YA.1 p with q|q
  ·exact h.1 y q
  ·simp only[Yu]at q;subst q;exact j
 ·simp only[Yu]at o;subst o;intro e;have h1:=(h.1 a i).1;rw[e,j.1]at h1;refine hn a i ?_;cases a;cases b;simp only at e h1;rw[e,h1]
def TD(s:List da)(v:da)(hl:s.length≤3000000):dh (Dx FF s v) λ b=>b=false→∀y∈s,y≠v:=by
 unfold Dx F9;have:=dM (λ n (i:Nat)=>Aj FF s v n (i:Int)) (λ i=>i≤s.length∧∀j y,j<i→s[j]? =some y→y≠v) (λ i=>s.length-i) (λ o=>(∀r,o=.inl r→0≤r)∧∀u:Unit,o=.inr u→∀y∈s,y≠v) (by
  rintro n i ⟨h1,C⟩ k;simp only[Aj];refine cq (λ a=>?_) λ a=>.ret ⟨(λ r e=>by cases e),λ u _ y p=>by
   obtain⟨j,hj,e⟩:=Wc p;exact C j y (by omega) (by rw[Y3 hj,e])⟩
  refine bV (by omega) (cM (by simp;omega) λ x B _=>bu (λ _=>.ret ⟨λ r e=>by cases e;omega,λ u e=>by cases e⟩) λ q=>?_)
  rw[w1 (by omega)]
  rw[Yf]at B;refine k (i+1) ⟨by omega,λ j y hj p=>?_⟩ (by omega)
  by_cases e:j=i
  ·subst e;rw[B]at p;cases p;intro z;rw[z]at q;simp at q
  ·exact C j y (by omega) p) FF 0 ⟨YL _,λ j y h=>by omega⟩ (by simp only[FF];omega)
 refine bh (Q:=λ r=>r<0→∀y∈s,y≠v) (jm this (λ r A=>.ret λ q=>by omega) λ u E=>.ret λ _=>E) λ r _ A=>.ret λ q=>A (by have:=Wb q;omega)
structure GC(ag:aa)(b:Nat)(w:Wd)(c:aa)(br:Bool)(gs:List (Int×ai))(l:List bx)(n7 n8:aa)(n9:List da)(n10:List cD):Prop where
 cc:c=ag
 br:br=false
 wo:eC ag w
 G:w.G=l
 le:l.length≤b
 nc:NC l n7 n8
 ld:n9.length≤b
 pk:PQ ag w n10
 nd:∀i x,az i gs=some x→i∈ag∧mf ag w i x
 al:∀i∈ag,∃x,az i gs=some x
 lr:LR w n9
def GC.set{ag:aa}{b b':Nat}{w w':Wd}{c:aa}{br:Bool}{gs:List (Int×ai)}{l l':List bx}{n7 n8 u z:aa}{n9 p:List da}{n10 o:List cD}{i:Int}{x:ai}(B:CO ag)(h:GC ag b w c br gs l n7 n8 n9 n10)(E:i∈ag)(e:Ext i w w')(wo:eC ag w')(C:w'.G=l')(le:l'.length≤b')(nc:NC l' u z)(ld:p.length≤b')(lr:LR w' p)(pk:PQ ag w' o)(A:mf ag w' i x):GC ag b' w' c br (bW i x gs) l' u z p o:=by
 refine⟨h.cc,h.br,wo,C,le,nc,ld,pk,λ j y hj=>?_,λ j hj=>?_,lr⟩
 rotate_left
 ·by_cases q:j=i
  ·subst q;exact⟨_,wy _⟩
  ·rw[xW q];exact h.al j hj
 by_cases q:j=i
 ·subst q;rw[wy]at hj;cases hj;exact⟨E,A⟩
 ·rw[xW q]at hj;obtain⟨a,d⟩:=h.nd j y hj;exact⟨a,d.ext B e q⟩
def PD(ag:aa)(w:Wd)(i:Int)(k:bD):Prop:=∃w',Ext i w w'∧eC ag w'∧w'.G=w.G∧jI Sn ag w' i k.Term k.bn k.Trail k.bj
def Tu{ag:aa}{w:Wd}{i:Int}{kept r:bD}{s:Nat}(y:jF kept=kept)(u:eC ag w)(h0:jI Sn ag w i kept.Term kept.bn kept.Trail kept.bj)(c:CP Sn ag w i kept.Trail kept.bj r.Term r.bn r.Trail r.bj)(z:Cp (dN kept r).Entries r.Trail.Entries s)(m:Nat):PD ag w i (fold kept ((iL kept r s).take m)):=
 (path (P:=PD ag w i) y z ⟨w,Ext.refl ..,u,rfl,h0⟩ c.p1 (λ nb q C j=>by
  obtain⟨b1,o,x⟩:=VG.1 nb;exact c.p2 b1.symm o.symm x.symm q C j) (λ b=>by
  have:=c.p3 (λ⟨B,p,A⟩=>b ⟨B.symm,p.symm,A.symm⟩);refine⟨?_,this.2⟩
  unfold dN;rw[if_pos b];exact this.1.symm)).1 m
def M3{ag:aa}{w:Wd}{i:Int}{kept r:bD}{rs:List Rec}{f n k:Nat}{X:aa}(h:SU i ag kept rs f n X)(z:eC ag w)(h0:jI Sn ag w i kept.Term kept.bn kept.Trail kept.bj)(c:CP Sn ag w i kept.Trail kept.bj r.Term r.bn r.Trail r.bj)(add:List Rec)(Q:add=[]∨∃s m,Cp (dN kept r).Entries r.Trail.Entries s∧add=(iL kept r s).take m)
 (y:∀x∈add,x.ok) (E:k≤(rs.map Rec.b).length) (C:eX (rs.map Rec.b++add.map Rec.b)) (M:(cd k (rs.map Rec.b++add.map Rec.b) []).length≤1048576) (o p:Int):
 ∃u dO w',qk FF o p ((cd k (rs.map Rec.b++add.map Rec.b) []).length:Int) [(bd f,cd k (rs.map Rec.b++add.map Rec.b) [])] ((add.map Rec.b).map (wv (bd f)))=some (u,dO)∧Ext i w w'∧eC ag w'∧w'.G=w.G∧∀rf a b,mf ag w' i (.inl (ar.mk dO [] u rf a b)):=by
 obtain⟨j,u,dO,h1,H,A⟩:=Mu o p f k _ _ h.ud.f1 h.ud.f2 E C M;rw[←Ub,←Yj]at A;have O:PD ag w i (fold kept (add.take j)):=by
  rcases Q with rfl|⟨s,m,J,rfl⟩
  ·exact⟨w,Ext.refl ..,z,rfl,by rw[List.take_nil];exact h0⟩
  ·rw[WH];exact Tu h.kr z h0 c J _
 obtain⟨w',e1,R,T,B⟩:=O;rw[←h.fo,←sj]at B;exact⟨u,dO,w',H,e1,R,T,λ rf a b=>⟨rs++add.take j,⟨A,λ x F=>(YA.1 F).elim (h.ok x) λ q=>y x (YZ q)⟩,λ _=>B⟩⟩
def Qp(ag:aa)(b:Nat)(w:Wd)(y:DJ):Prop:=GC ag b w y.2.1 y.2.2.1 y.2.2.2.1 y.2.2.2.2.2.2.1 y.2.2.2.2.2.2.2.1 y.2.2.2.2.2.2.2.2.1 y.2.2.2.2.2.2.2.2.2.1 y.2.2.2.2.2.2.2.2.2.2
def GCS(ag:aa)(b:Nat)(w:Wd)(y:KN):Prop:=GC ag b w y.2.1 y.2.2.1 y.2.2.2.1 y.2.2.2.2.2.2.2.2.2.2.1 y.2.2.2.2.2.2.2.2.2.2.2.1 y.2.2.2.2.2.2.2.2.2.2.2.2.1 y.2.2.2.2.2.2.2.2.2.2.2.2.2.1 y.2.2.2.2.2.2.2.2.2.2.2.2.2.2
def IQ(ag:aa)(hc:CO ag)(h:cP)(v nx mt:aa)(out:List cj)(a:eU)(c:aa)(br:Bool)(gs:List (Int×ai))(gk last:Int)(tb:Bool)(l:List bx)(n7 n8:aa)(n9:List da)(rf:bD)(eA sum:Int)(n10:List cD)(m:List (ax×Int))(eK:Int)(k:bD)(fs:Fs)(wt:List bP)(f:aj)(x y:Int)
 (b:Nat) (hb:b≤2000000) {w:Wd} (i:GC ag b w c br gs l n7 n8 n9 n10) {x0:ai} (hk:az gk gs=some x0) (hN:mf ag w gk (.inr (aw.mk fs wt eK f x y k rf eA sum))) (fr:FR Sn ag w gk rf.Trail rf.bj rf.ah h v nx mt out):
 dh (vg FF gk (whole h v nx mt) out a c br gs gk last tb l n7 n8 n9 rf eA sum n10 m eK k fs wt f x y) λ o=>∃w',Ext gk w w'∧(∀z,o=.inl z→(z.1=0∨z.1=3)∧GCS ag (b+4097) w' z)∧∀z,o=.inr z→(z.1=0∨z.1=3)∧Qp ag (b+4097) w' z:=by
 obtain⟨rs,f1,n1,X,H,e1,e2,e3,e4,e5,e6,e7,no,hid,fw,Z⟩:=hN;simp only at H e1 e2 e3 e4 e5 e6 e7 no hid fw Z;subst e1 e2 e3 e4 e5 e6;have ux:=i.br;subst ux;have M:=(i.nd _ _ hk).1;have j7:Option.isSome (az gk gs)=true:=by rw[hk];rfl
 have gL:=i.le;have A:=i.G;have hld:=i.ld;have uy:l.length≤b+4097:=by omega
 have T:n9.length≤b+4097:=by omega
 obtain⟨J,LX,LW⟩:=fr.cf;have h7:=hc.ok.n7;have hs:Small (whole h v nx mt):=⟨by show h.bg.length≤_;rw[J];omega,by show h.Trail.Entries.length≤_;omega,by have:=fr.vl;show v.length≤_;omega,by have:=fr.nl;show nx.length≤_;omega,by have:=fr.ml;show mt.length≤_;omega⟩
 have H2:jI Sn ag w gk k.Term k.bn k.Trail k.bj:=by rw[e7,←hid];exact no.ho.d
 have It:CP Sn ag w gk k.Trail k.bj (whole h v nx mt).Term (whole h v nx mt).bn (whole h v nx mt).Trail (whole h v nx mt).bj:=by rw[e7];exact fr.cp
 have yR:TC k.Trail:=by rw[e7];exact no.hn.tc
 have sQ:k.Trail.Entries.length≤4096:=by rw[e7];exact no.rk.ok.tr.len
 unfold vg;rw[show(decide (gk=gk)&&Option.isSome (az gk gs))=true from by rw[j7,Y2 rfl];rfl,Y4]
 refine bh (Oc H yR sQ hs (by show∀x∈h.bg,_;rw[J];exact hc.lt)) λ y0 _ h0=>?_
 obtain⟨er,k0,f0,QB,Qw,t0,SL,w0⟩:=y0;obtain⟨add,mM,kk,xi,hX,hR,hl,hy,C⟩:=h0;simp only at hy C;cases hy;simp only[j7,Y4];have oi:add=[]∨∃s m,Cp (dN k (whole h v nx mt)).Entries (whole h v nx mt).Trail.Entries s∧add=(iL k (whole h v nx mt) s).take m:=by
  rcases C with ⟨-, -,q|⟨-, -, -,s,m,q1,q2⟩⟩|⟨-, -, -, -, -,s,q1,q2⟩
  ·exact .inl q
  ·exact .inr ⟨s,m,q1,q2⟩
  ·exact .inr ⟨s,(iL k (whole h v nx mt) s).length,q1,by rw[W7];exact q2⟩
 have E:=λ GQ Gs=>M3 H i.wo H2 It add oi mM xi hR hl GQ Gs;refine bu (λ _=>?_) λ e=>?_
 ·obtain⟨c',dO,w',g,j,g2,g3,g4⟩:=E 0 0;unfold tB sG;rw[g];simp only[Y1];exact(.ret ⟨w',j,λ z e=>by cases e;exact⟨.inr rfl,i.set hc M j g2 (by rw[g3,A]) uy i.nc T (i.lr.ext j) (i.pk.ext j) (g4 ..)⟩,λ z e=>by cases e⟩)
 rcases C with ⟨q, -⟩|⟨nj,u,Ia,iV,pU,s,Ed,iE⟩
 ·exact absurd (show er=0 by simpa using e) q
 subst nj;refine bu (λ _=>?_) λ _=>?_
 ·obtain⟨c',dO,w',g,j,g2,g3,g4⟩:=E a.mK a.mJ;unfold sG;rw[g];simp only[Y1];exact(.ret ⟨w',j,λ z e=>by cases e;exact⟨.inl rfl,i.set hc M j g2 (by rw[g3,A]) uy i.nc T (i.lr.ext j) (i.pk.ext j) (g4 ..)⟩,λ z e=>by cases e⟩)
 subst iE;obtain⟨w',j,g2,ho,ro,Lk,Ei⟩:=fr.ex;have U:=B9 kk (rs.map Rec.b++(iL k (whole h v nx mt) s).map Rec.b) [];rw[Y8,Ya,Ya]at U;have DY:wJ FF k0 (bd f1) (n1:Int) ((rs++iL k (whole h v nx mt) s).length:Int) ((cd kk (rs.map Rec.b++(iL k (whole h v nx mt) s).map Rec.b) []).length:Int) [(bd f1,cd kk (rs.map Rec.b++(iL k (whole h v nx mt) s).map Rec.b) [])] (((iL k (whole h v nx mt) s).map Rec.b).map (wv (bd f1)))=some (0,((cd kk (rs.map Rec.b++(iL k (whole h v nx mt) s).map Rec.b) []).length:Int),[]):=by
  unfold wJ;rw[OV (qL _ _) (by rw[Ya,Ya];omega),Mf];rfl
 refine bJ DY ?_;obtain⟨ad,xr⟩:∃ad,ad=iL k (whole h v nx mt) s:=⟨_,rfl⟩;rw[←xr]at hR hl mM⊢;have hf:fold k ad=jF (whole h v nx mt):=by
  rw[xr,Jl H.kr Ed];unfold tv jF;rw[iV,pU]
 have O:SU gk ag k0 (rs++ad) f1 n1 (cd kk (rs.map Rec.b++ad.map Rec.b) []):=by
  refine⟨⟨H.ud.f1,H.ud.f2,⟨kk,by rw[Yj],by rw[Yj,Y8];omega⟩,by rw[Yj];exact hR,hl⟩,H.fn,H.n9,λ x hx=>(YA.1 hx).elim (H.ok x) (mM x),?_,?_⟩
  ·rw[sj,H.fo,hf,u]
  ·rw[u];rfl
 clear DY Ed U xr E oi;obtain⟨Y,hY⟩:∃Y,Y=cd kk (rs.map Rec.b++ad.map Rec.b) []:=⟨_,rfl⟩;rw[←hY]at O⊢;have F:=Ia.ok;have R':rf.ah≤h.ah:=LW;have Hm:=i.pk.ext j;have SA:=j.G;refine bh (TT out m last n10 (by have:=fr.ol;omega) Lk Hm) λ q _ hq=>?_
 obtain⟨AU,p1⟩:=q;simp only at hq⊢;have Sr:=i.nc;have Ee:rf.ah≤(w.G.length:Int):=no.ho.cG;have uw:0≤rf.ah:=Vr no.ho.d.b0 no.ho.c0;have lU:h.Trail.an≤(l.length:Int):=by
  by_cases q:h.Trail.an=rf.Trail.an∧h.Trail.au=rf.Trail.au∧h.bj=rf.bj
  ·have:rf.Trail.an≤(w.G.length:Int):=no.ho.d.bG;rw[q.1,←A];exact this
  ·obtain⟨-,w2, -, -,q3,q4⟩:=fr.cp.p3 q;have:=q4.bG;rw[q3,A]at this;exact this
 have Lp:(w'.G.length:Int)≤b+4096:=by
  rcases Ei with q|q
  ·rw[q,A];omega
  ·have h1:h.ah≤bQ h.Trail:=ho.c1;have h2:h.Trail.Entries.length≤4096:=F.tr.len;unfold bQ at h1;omega
 rw[fw,Z,←j.take (c:=rf.ah.toNat) (by omega)]
 refine bh (UC (r:=whole h v nx mt) (G:=w'.G) c gs gk AU tb n9 p1 m _ k0 _ _ _ _ _ Sr (by omega) (by rw[←A];exact SA) F uw (by rw[←A];exact Ee) R' ho.cG ho.cl (by rw[←A];exact Ei) λ q=>⟨lU,ho.d.sn⟩) λ q _ vE=>?_
 obtain⟨tb',QN,QM,rfl,Ss⟩:=vE;simp only;have HH:gk≠0:=by have:=hc.ps _ M;omega
 refine bh (Q:=λ t=>t=true→h.bE=2∧∀y∈n9,y≠da.mk gk h.Term) (bu (λ e=>bh (TD n9 _ (by omega)) λ t _ ht=>.ret λ q=>⟨by simpa[whole]using e,ht (by simpa using q)⟩) λ _=>.ret (by simp)) λ t _ Q7=>bh (Q:=λ R:List da=>R.length≤b+1∧LR w' R) (bu (λ e=>bV (by unfold bI;omega) (.ret ⟨by simp;omega,?_⟩)) λ _=>.ret ⟨by omega,i.lr.ext j⟩) λ R _ h9=>?_
 ·obtain⟨q1,q2⟩:=Q7 e;have y3:w'.g.el h.Term=h.Id:=(ro.r2 q1).1.el;exact(i.lr.ext j).add ⟨by show w'.g.el h.Term=gk;rw[y3,fr.id],HH⟩ q2
 obtain⟨h9,Ln⟩:=h9;have um:NO Sn ag w' (whole h v nx mt):=⟨Ia,ho,ro,J⟩;have fin:∀{x:ai},mf ag w' gk x→GC ag (b+4097) w' c false (bW gk x gs) w'.G QN QM R p1:=λ hx=>i.set hc M j g2 rfl (by omega) Ss (by omega) Ln hq hx
 have QE:∀{B V n' X'},SU gk ag k0 B V n' X'→∀{z:ai},z=.inr (aw.mk [(bd V,X')] [] (X'.length:Int) (bd V) ((n':Nat):Int) (B.length:Int) k0 (whole h v nx mt) (fh (w'.G.take h.ah.toNat)) (fj (w'.G.take h.ah.toNat)))→mf ag w' gk z:=λ q z hz=>by
  subst hz;exact⟨_,_,_,_,q,rfl,rfl,rfl,rfl,rfl,rfl,u,um,fr.id,rfl,rfl⟩
 unfold FT FP;simp only[Y1];refine bh (Q:=λ q:Bool×Int×Fs×aj×Int×Int×List bP=>(∃B V n' X',SU gk ag k0 B V n' X'∧q=(false,((X'.length:Nat):Int),[(bd V,X')],bd V,((n':Nat):Int),((B.length:Nat):Int),[]))∨(q.1=true∧dh (qk FF 0 0 q.2.1 q.2.2.1 q.2.2.2.2.2.2) λ z=>SD gk ag z.1 z.2 [] (rs++ad))) ?_ λ q _ Rk=>?_
 ·refine cq (λ _=>bh (Mm O (by rw[u];have:=Ia.nk;exact⟨this.t,this.v,this.b,this.l,this.bt,this.s,this.e,this.el⟩) (by rw[u];exact fr.id) (by rw[u];exact J) (by rw[u];exact F.tr.len)) λ p _ hp=>.ret ?_) λ _=>.ret (.inl ⟨_,_,_,_,O,rfl⟩)
  rcases hp with ⟨B,X',rfl,z⟩|⟨z1,z2⟩
  ·exact .inl ⟨_,_,_,_,z,rfl⟩
  ·exact .inr ⟨by simpa using z1,z2⟩
 rcases Rk with ⟨B,V,n',X',z,rfl⟩|⟨z1,z2⟩
 ·simp only[Y7];exact .ret ⟨w',j,(λ z e=>by cases e),λ z2 e=>by cases e;exact⟨.inl rfl,fin (QE z rfl)⟩⟩
 ·simp only[z1,Y4];unfold tB sG;obtain⟨⟨c',dO⟩,z3,z4⟩:=z2;rw[z3];simp only[Y1];exact .ret ⟨w',j,(λ z e=>by cases e;exact⟨.inr rfl,fin ⟨rs++ad,z4,λ _=>by rw[O.fo,u];have:=ho.d;rw[fr.id]at this;exact this⟩⟩),λ z e=>by cases e⟩
end Go.T
