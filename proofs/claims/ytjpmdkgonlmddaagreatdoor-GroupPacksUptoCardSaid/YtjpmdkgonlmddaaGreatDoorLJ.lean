import Derived.Test.YtjpmdkgonlmddaaGreatDoorLG
import Derived.Test.YtjpmdkgonlmddaaGreatDoorLI
set_option linter.defProp false
set_option linter.unusedVariables false
set_option maxRecDepth 20000
namespace Go.T
open Go Go.Ab
inductive Rec where
 |lC (t v:Int)
 |mQ (n t:Int) (d:aj)
 |base (n t:Int) (s:aj)
 |fin (n:Int)
def fN(n:Int):cA:=cA.mk 1 n []
def Io(s:aj):cA:=cA.mk 3 0 s
def Rec.k:Rec→Int
 |.lC .. =>1
 |.mQ .. =>2
 |.base .. =>3
 |.fin .. =>4
def Rec.fs:Rec→List cA
 |.lC t v=>[fN t,fN v]
 |.mQ n t d=>[fN n,fN t,Io d]
 |.base n t s=>[fN n,fN t,Io s]
 |.fin n=>[fN n]
def Rec.ks:Rec→aa
 |.lC .. =>[1,1,1]
 |.mQ .. =>[1,1,1,3]
 |.base .. =>[1,1,1,3]
 |.fin .. =>[1,1]
def n63(n:Int):Prop:=0≤n∧n<9223372036854775808
def Rec.ok:Rec→Prop
 |.lC t v=>n63 t∧n63 v
 |.mQ n t d=>n63 n∧n63 t∧d.length≤65536
 |.base n t s=>n63 n∧n63 t∧s.length≤65536
 |.fin n=>n63 n
def Rec.b(x:Rec):aa:=(cZ (fN x.k::x.fs)).getD []
def js{n:Int}(h:n63 n):nf 1 (fN n):=⟨rfl,.inl ⟨rfl,h.1,h.2,rfl⟩⟩
def AL{s:aj}(h:s.length≤65536):nf 3 (Io s):=⟨rfl,.inr ⟨rfl,rfl,h⟩⟩
def Rec.j5{x:Rec}(h:x.ok):j5 x.ks (fN x.k::x.fs):=by
 have z:∀k:Int,k=1∨k=2∨k=3∨k=4→n63 k:=λ k h=>by unfold n63;omega
 cases x with
 |lC t v=>exact⟨js (z 1 (by omega)),js h.1,js h.2,trivial⟩
 |mQ n t d=>exact⟨js (z 2 (by omega)),js h.1,js h.2.1,AL h.2.2,trivial⟩
 |base n t d=>exact⟨js (z 3 (by omega)),js h.1,js h.2.1,AL h.2.2,trivial⟩
 |fin n=>exact⟨js (z 4 (by omega)),js h,trivial⟩
def I1:∀{ks:aa} {fs:List cA},j5 ks fs→∃b,cZ fs=some b
 | [],[],_=>⟨[],rfl⟩
 | [],_::_,h=>h.elim
 |_::_,[],h=>h.elim
 |k::ks,f::fs,h=>by
  obtain⟨b,i⟩:=I1 h.2;rcases xD h.1 with ⟨-,e, -⟩|⟨-,e, -⟩
  ·exact⟨_,by simp only[cZ];rw[e,i];rfl⟩
  ·exact⟨_,by simp only[cZ];rw[e,i];rfl⟩
def Rec.enc{x:Rec}(h:x.ok):cZ (fN x.k::x.fs)=some x.b:=by
 obtain⟨b,i⟩:=I1 (x.j5 h);unfold Rec.b;rw[i];rfl
def Rec.qD{x:Rec}(h:x.ok):dw x.b:=zE (x.enc h)
def Rec.decode{x:Rec}(h:x.ok):lL FF x.ks x.b=some (0,fN x.k::x.fs):=by
 have hl:x.ks.length≤4:=by cases x<;>simp[Rec.ks]
 have o:∀k∈x.ks,k=1∨k=3:=by cases x<;>simp[Rec.ks]
 have j:=(zF (x.enc h)).2;have q:(fN x.k::x.fs).length≤4:=by cases x<;>simp[Rec.fs]
 have i:jj x.ks x.b (fN x.k::x.fs) []:=⟨x.j5 h,x.b,x.enc h,by simp⟩
 rcases Fl x.ks x.b (by omega) o (x.qD h) (by omega)with ⟨fs,h1,p⟩|⟨h1, -⟩
 ·rw[p,(Ci h1 i).1]
 ·exact absurd i (h1 _)
def Rec.first{x:Rec}(h:x.ok):x.b[0]? =some x.k∧x.b.length≤262200:=by
 have e:=x.enc h;have i:=(zF e).2;have j:(fN x.k::x.fs).length≤4:=by cases x<;>simp[Rec.fs]
 refine⟨?_,by omega⟩
 simp only[cZ]at e;have e1:dI (fN x.k)=some [x.k]:=by
  have z:∀k:Int,k=1∨k=2∨k=3∨k=4→dI (fN k)=some [k]:=by rintro k (rfl|rfl|rfl|rfl)<;>rfl
  exact z _ (by cases x<;>simp[Rec.k])
 rw[e1]at e;cases h2:cZ x.fs with
 |none=>rw[h2]at e;cases e
 |some c=>
  rw[h2]at e;simp only[YE,Y5]at e;rw[←e];rfl
def Rec.oF{x:Rec}:az x.k Go.T.oF=some x.ks:=by
 cases x with
 |lC _ _=>exact(by decide:az (1:Int) Go.T.oF=some [1,1,1])
 |mQ _ _ _=>exact(by decide:az (2:Int) Go.T.oF=some [1,1,1,3])
 |base _ _ _=>exact(by decide:az (3:Int) Go.T.oF=some [1,1,1,3])
 |fin _=>exact(by decide:az (4:Int) Go.T.oF=some [1,1])
def j9(t:ca)(n x:Int):ca:=if gp t n=some x then dZ t n x else ca.mk n x []
def M0{t:ca}(h:TC t)(n x:Int):uS FF t n x=some (j9 t n x):=by
 unfold uS j9;rw[h.kB,Y1];cases e:gp t n with
 |none=>
  rw[if_neg (by simp)];rfl
 |some y=>
  by_cases z:y=x
  ·subst z;rw[if_pos rfl];simp only[YS,Y4,YJ,WS,Y1];rw[h.cut e];rfl
  ·rw[if_neg (λ k=>z (W5 k))];have:(y==x)=false:=by simpa using z
   simp[this]
def nO(r:bD)(t:ca)(s:aj):bD:=bD.mk r.Id r.bg r.Term r.bn r.bE r.bo t s r.ah r.Left r.bK r.bO r.Next r.Match
def ap(r:bD):Rec→bD
 |.lC t v=>jF (bD.mk r.Id r.bg t v r.bE r.bo r.Trail r.bj r.ah r.Left r.bK r.bO r.Next r.Match)
 |.mQ n t d=>jF (nO r (ca.mk r.Trail.an r.Trail.au (r.Trail.Entries.take (n-r.Trail.an-1).toNat++[bx.mk t d])) r.bj)
 |.base n t s=>jF (nO r (j9 r.Trail n t) s)
 |.fin n=>jF (nO r (ca.mk r.Trail.an r.Trail.au (r.Trail.Entries.take (n-r.Trail.an).toNat)) r.bj)
def Nv{t:ca}{n x:Int}(h:t.Entries.length≤10000):(j9 t n x).Entries.length≤10000:=by
 unfold j9 dZ;split<;>simp;omega
def dh.BO{α:Type}{o:Option α}{x:α}{P:α→Prop}(h:dh o P)(e:o=some x):P x:=by
 obtain⟨y,i,j⟩:=h;rw[e]at i;cases i;exact j
def ZH(r:bD)(o:RK r)(x:Rec)(p:x.ok):dh (va FF r x.b) λ y=>y.2=true→y.1=ap r x∧RK y.1:=by
 obtain⟨j,fl⟩:=x.first p
 have C:=ZI r o x.b (x.qD p) (by omega)
 suffices h:dh (va FF r x.b) λ y=>y.2=true→y.1=ap r x by
  obtain⟨y,e,V⟩:=h;exact⟨y,e,λ q=>⟨V q,(C.BO e q).1⟩⟩
 have u:=o.ok.small;have F:=o.ok.tr;have Sk:=F.last;have R:=F.b0;have M:=F.len;have Y:0<x.b.length:=(Ys.1 j).1;have J:(((x.b.length:Nat):Int)==0)=false:=by simpa using(by omega:¬((x.b.length:Nat):Int)=0)
 have rs:∀(a b:Int) (t:ca) (s:aj),t.Entries.length≤10000→nN FF (bD.mk r.Id r.bg a b r.bE r.bo t s r.ah r.Left r.bK r.bO r.Next r.Match)=some (jF (bD.mk r.Id r.bg a b r.bE r.bo t s r.ah r.Left r.bK r.bO r.Next r.Match)):=λ a b t s ht=>Fh _ ⟨u.c,by show t.Entries.length≤_;omega,u.v,u.n,u.m⟩
 have ck:∀(y:bD) (P:bD×Bool→Prop),(∀z,P (y,z))→y.bg=r.bg→y.Trail.Entries.length≤10000→y.bO=[]→y.Next=[]→y.Match=[]→dh (Option.bind (k9 FF y) λ z=>some (y,z)) P:=λ y P h h1 h2 h3 U Z=>bh (Ff y ⟨by rw[h1];exact u.c,by omega,by rw[h3];simp,by rw[U];simp,by rw[Z];simp⟩) λ z _ _=>.ret (h z)
 unfold va;rw[J,Y7];refine bJ Ou (bJ (by rw[WJ];exact j) ?_)
 rw[x.oF];simp only[YS,Y4,YJ];refine bJ (by rw[OZ];exact x.decode p) ?_
 have X:((((List.map cA.c (fN x.k::x.fs)).length:Nat):Int)==0)=false:=by
  simp only[Yy,Yh];simpa using(by omega:¬((((List.map cA.c x.fs).length+1:Nat)):Int)=0)
 simp only[U7,Y7,X,Y1];cases x with
 |lC t v=>
  refine bJ rfl (bJ rfl (bJ (by rw[WJ];exact j) ?_))
  simp only[Rec.k,show((1:Int)==1)=true from rfl,Y4]
  exact bJ rfl (bJ rfl (bJ (rs _ _ _ _ (by omega)) (ck _ _ (λ z _=>rfl) rfl (by show r.Trail.Entries.length≤_;omega) rfl rfl rfl)))
 |mQ n t d=>
  refine bJ rfl (bJ rfl (bJ (by rw[WJ];exact j) ?_))
  simp only[Rec.k,show((2:Int)==1)=false from rfl,show((2:Int)==2)=true from rfl,Y4,Y7,Ya]
  obtain⟨n1, -⟩:=p;obtain⟨O,n1⟩:=n1;show dh (Option.bind (bif decide (n≤r.Trail.an)then some true else some (decide (IntKind.wrap IntKind.i64 (IntKind.wrap IntKind.i64 (r.Trail.an+(r.Trail.Entries.length:Int))+1)<n))) _) _;rw[dj (x:=r.Trail.an+(r.Trail.Entries.length:Int)) (by omega) (by omega),dj (x:=r.Trail.an+(r.Trail.Entries.length:Int)+1) (by omega) (by omega)]
  refine bh (Q:=λ c=>c=false→r.Trail.an<n∧n≤r.Trail.an+(r.Trail.Entries.length:Int)+1) (cq (λ _=>.ret (by simp)) λ a=>.ret λ q=>⟨by omega,by have:=Wb q;omega⟩) λ c _ H=>bu (λ _=>.ret (by simp)) λ e=>?_
  obtain⟨T,q2⟩:=H e;show dh (bif decide ((0:Int)≤IntKind.wrap IntKind.i64 (IntKind.wrap IntKind.i64 (n-r.Trail.an)-1))then _ else none) _;have E:IntKind.wrap IntKind.i64 (IntKind.wrap IntKind.i64 ((fN n).N-r.Trail.an)-1)=n-r.Trail.an-1:=by
   show IntKind.wrap IntKind.i64 (IntKind.wrap IntKind.i64 (n-r.Trail.an)-1)=_;rw[dj (x:=n-r.Trail.an) (by omega) (by omega),dj (by omega) (by omega)]
  refine bV (by have:=E;simp only[fN]at this;omega) ?_
  simp only[E];have i:(n-r.Trail.an-1).toNat≤r.Trail.Entries.length:=by omega
  refine bV (by omega) (bV i (bJ (uU _ (by rw[Y9];unfold bI;omega)) ?_))
  refine bJ rfl (bJ rfl (bJ rfl (bJ rfl (bV (by rw[Y9];unfold bI;omega) ?_))))
  exact bJ (rs _ _ _ _ (by simp;omega)) (ck _ _ (λ z _=>rfl) rfl (by show(_++_:List _).length≤_;simp;omega) rfl rfl rfl)
 |base n t s=>
  refine bJ rfl (bJ rfl (bJ (by rw[WJ];exact j) ?_))
  simp only[Rec.k,show((3:Int)==1)=false from rfl,show((3:Int)==2)=false from rfl,show((3:Int)==3)=true from rfl,Y4,Y7]
  refine bh (Q:=λ q=>q=.inr ((j9 r.Trail n t).an,(j9 r.Trail n t).au,(j9 r.Trail n t).Entries,s)) (bJ rfl (bJ rfl (bJ (M0 ⟨o.ok.tc,o.ok.tr⟩ _ _) (bJ rfl (bJ rfl (.ret rfl)))))) λ q _ B=>?_;subst B;simp only[YG]
  have A:=Nv (t:=r.Trail) (n:=n) (x:=t) (by omega)
  exact bJ (rs _ _ _ _ A) (ck _ _ (λ z _=>rfl) rfl A rfl rfl rfl)
 |fin n=>
  refine bJ rfl (bJ rfl (bJ (by rw[WJ];exact j) ?_))
  simp only[Rec.k,show((4:Int)==1)=false from rfl,show((4:Int)==2)=false from rfl,show((4:Int)==3)=false from rfl,show((4:Int)==4)=true from rfl,Y4,Y7,Ya]
  obtain⟨O,n1⟩:=p;refine jm (Pr:=λ q:bD×Bool=>q.2=false) (Ps:=λ q:Int×Int×List bx×aj=>q=(r.Trail.an,r.Trail.au,r.Trail.Entries.take (n-r.Trail.an).toNat,r.bj)) ?_ (λ q B=>.ret (by rw[B];simp)) (λ q B=>by
   subst B;exact bJ (rs _ _ _ _ (by simp;omega)) (ck _ _ (λ z _=>rfl) rfl (by show(List.take _ _).length≤_;simp;omega) rfl rfl rfl))
  show dh (Option.bind (bif decide (n<r.Trail.an)then some true else some (decide (IntKind.wrap IntKind.i64 (r.Trail.an+(r.Trail.Entries.length:Int))<n))) _) _;rw[dj (x:=r.Trail.an+(r.Trail.Entries.length:Int)) (by omega) (by omega)]
  refine bh (Q:=λ c=>c=false→r.Trail.an≤n∧n≤r.Trail.an+(r.Trail.Entries.length:Int)) (cq (λ _=>.ret (by simp)) λ a=>.ret λ q=>⟨by omega,by have:=Wb q;omega⟩) λ c _ H=>bu (λ _=>.ret ⟨(λ q e=>by cases e;rfl),λ q e=>by cases e⟩) λ e=>?_
  obtain⟨T,q2⟩:=H e;have E:IntKind.wrap IntKind.i64 ((fN n).N-r.Trail.an)=n-r.Trail.an:=dj (by show _≤n-_;omega) (by show n-_≤_;omega)
  simp only[E];have i:(n-r.Trail.an).toNat≤r.Trail.Entries.length:=by omega
  refine bV (by omega) (bV (by omega) (bV i (bJ (uU _ (by rw[Y9];unfold bI;omega)) (.ret ⟨(λ q e=>by cases e),λ q e=>by cases e;rfl⟩))))
def ed:Int→List bx→List Rec
 |_,[]=>[]
 |b,e::r=>.mQ (b+1) e.Term e.Data::ed (b+1) r
def hQ(k r:bD):Prop:=¬(k.Trail.an=r.Trail.an∧k.Trail.au=r.Trail.au∧k.bj=r.bj)
instance (k r:bD):Decidable (hQ k r):=by unfold hQ;infer_instance
def gC(k r:bD):List Rec:=if k.Term=r.Term∧k.bn=r.bn then []else [.lC r.Term r.bn]
def dN(k r:bD):ca:=if hQ k r then j9 k.Trail r.Trail.an r.Trail.au else k.Trail
def gh(k r:bD):List Rec:=if hQ k r then [.base r.Trail.an r.Trail.au r.bj]else []
def iI(k r:bD)(s:Nat):List Rec:=if s=r.Trail.Entries.length∧s<(dN k r).Entries.length then [.fin ((dN k r).an+s)]else []
def iL(k r:bD)(s:Nat):List Rec:=gC k r++(gh k r++(ed ((dN k r).an+s) (r.Trail.Entries.drop s)++iI k r s))
structure Cp(a b:List bx)(s:Nat):Prop where
 l1:s≤a.length
 l2:s≤b.length
 eq:a.take s=b.take s
 ne:∀x y,a[s]? =some x→b[s]? =some y→x≠y
def xT{k r:bD}:(dN k r).an=r.Trail.an:=by
 unfold dN;split
 ·unfold j9 dZ;split<;>rfl
 ·rename_i h;exact(VG.1 h).1
def IJ:∀{ks:aa} {fs:List cA},j5 ks fs→∀f∈fs,okF f
 | [],[],_,_,h=>by cases h
 | [],_::_,h,_,_=>h.elim
 |_::_,[],h,_,_=>h.elim
 |k::ks,g::fs,h,f,j=>by
  rcases Yr.1 j with rfl|j
  ·obtain⟨h1,i|i⟩:=h.1
   ·exact .inl ⟨h1.trans i.1,i.2.2.1⟩
   ·exact .inr (h1.trans i.1)
  ·exact IJ h.2 f j
def Fk{x:Rec}(h:x.ok):sw FF x.k x.fs=some x.b:=by
 have e:=E2 (fN x.k::x.fs) (IJ (x.j5 h)) (by cases x<;>simp[Rec.fs])
 rw[x.enc h]at e;have hl:x.fs.length≤3:=by cases x<;>simp[Rec.fs]
 have:dh (sw FF x.k x.fs) λ y=>y=x.b:=by
  unfold sw;exact bJ (y:=fN x.k) rfl (bV (by unfold bI;omega) (bJ e (.ret rfl)))
 obtain⟨y,i,rfl⟩:=this;exact i
structure NK(r:bD):Prop where
 t:n63 r.Term
 v:n63 r.bn
 b:0≤r.Trail.an
 l:r.Trail.an+(r.Trail.Entries.length:Int)≤1099511627776
 bt:n63 r.Trail.au
 s:r.bj.length≤65536
 e:∀e∈r.Trail.Entries,n63 e.Term∧e.Data.length≤65536
 el:r.Trail.Entries.length≤10000
def RK.nk{r:bD}(h:RK r):NK r:=by
 have a:=h.ok.tr;have:=h.ok.KY;have:=h.ok.Gt;have:=a.t0;have:=a.t1;have:=a.b0;have:=a.b1;have:=a.last;have:=h.ok.sn;have:=a.len;refine⟨⟨by omega,by omega⟩,?_,by omega,by omega,⟨by omega,by omega⟩,by omega,λ e o=>?_,by omega⟩
 ·rcases h.ok.vt with q|q
  ·rw[q];exact⟨by decide,by decide⟩
  ·obtain⟨i,j,e⟩:=Wc q;have:=h.ok.cf.El i _ (Y3 j);exact⟨by omega,h.cb _ q⟩
 ·have:=a.mQ e o;exact⟨⟨by omega,by omega⟩,by omega⟩
def Zp1(r:bD)(c:List bx)(hc:c.length≤10000):dh (tD FF r c FF 0) λ x=>∃s:Nat,x=(s:Int)∧Cp c r.Trail.Entries s:=by
 have:=dM (λ n (i:Nat)=>tD FF r c n (i:Int)) (λ i=>i≤c.length∧i≤r.Trail.Entries.length∧c.take i=r.Trail.Entries.take i) (λ i=>c.length-i) (λ x=>∃s:Nat,x=(s:Int)∧Cp c r.Trail.Entries s) (by
  rintro n i ⟨h1,E,A⟩ k;simp only[tD];refine bh (Q:=λ b=>(b=true→i<c.length∧i<r.Trail.Entries.length∧c[i]? =r.Trail.Entries[i]?)∧(b=false→∀x y,c[i]? =some x→r.Trail.Entries[i]? =some y→x≠y)) (cq (λ a=>cq (λ b=>bV (by omega) (cM (by simp;omega) λ x j _=>bV (by omega) (cM (by simp;omega) λ y o _=>.ret ?_))) λ z=>.ret ⟨by simp,λ _ x y _ o=>by rw[Wn (by omega)]at o;cases o⟩) λ z=>.ret ⟨by simp,λ _ x y j _=>by rw[Wn (by omega)]at j;cases j⟩) λ b _ B=>bu (λ e=>?_) λ e=>.ret ⟨i,rfl,h1,E,A,B.2 e⟩
  ·rw[Yf]at j o;cases x with
   |mk t1 d1=>
    cases y with
    |mk t2 d2=>
     refine⟨λ q=>⟨by omega,by omega,?_⟩,λ q x y u p=>?_⟩
     ·simp only[Bool.and_true,Yi,Vy]at q;rw[j,o,q.1,q.2]
     ·rw[j]at u;rw[o]at p;cases u;cases p;intro z;simp only[bx.mk.injEq]at z;simp only[z.1,z.2,WS,Bool.and_self]at q;cases q
  ·obtain⟨a,b,C⟩:=B.1 e;rw[w1 (by omega)]
   exact k (i+1) ⟨a,b,by rw[W8,W8,A,C]⟩ (by omega)) FF 0 ⟨YL _,YL _,by simp⟩ (by simp only[FF];omega)
 exact this
def N8(e:bx):∀(l:List bx) (b:Int),ed b (l++[e])=ed b l++[.mQ (b+l.length+1) e.Term e.Data]
 | [],b=>by simp[ed]
 |a::r,b=>by
  simp only[YC,ed,N8 e r,Yh];congr 3;simp only[Rec.mQ.injEq,VD];omega
def Zp0(r:bD)(o:NK r)(b:Int)(s:Nat)(hb:b=r.Trail.an)(hs:s≤r.Trail.Entries.length)(j:List aa)(hl:j.length≤10):
 tC FF r b (s:Int) FF 0 j=some (j++(ed (b+s) (r.Trail.Entries.drop s)).map Rec.b):=by
 have A:=o.el;have:=dM (λ n (q:Nat×List aa)=>tC FF r b (s:Int) n (q.1:Int) q.2) (λ q=>q.1≤r.Trail.Entries.length-s∧q.2=j++(ed (b+s) ((r.Trail.Entries.drop s).take q.1)).map Rec.b∧q.2.length≤10+q.1) (λ q=>r.Trail.Entries.length-s-q.1) (λ x=>x=j++(ed (b+s) (r.Trail.Entries.drop s)).map Rec.b) (by
  rintro n ⟨i,l⟩ ⟨h1,u,C⟩ k;simp only at h1 u C k⊢;simp only[tC];simp only[Iy,Yw,Ya,Yf];refine cq (λ a=>?_) λ a=>.ret (by rw[u,Yk (by rw[Yw];omega)])
  refine bV (by omega) (cM (by simp;omega) λ y F z=>?_)
  have b0:=o.b;have bl:=o.l;have p:=o.e y (Wq z);have E:(Rec.mQ (b+s+i+1) y.Term y.Data).ok:=⟨⟨by omega,by omega⟩,p⟩
  have B:IntKind.wrap IntKind.i64 (IntKind.wrap IntKind.i64 (b+IntKind.wrap IntKind.i64 ((s:Int)+(i:Int)))+1)=b+s+i+1:=by
   rw[dj (x:=(s:Int)+i) (by omega) (by omega),dj (x:=b+((s:Int)+i)) (by omega) (by omega),dj (by omega) (by omega)];omega
  simp only[mH,wm,Y1,B];refine bJ (Fk E) (bV (by unfold bI;omega) ?_)
  rw[w1 (by omega)]
  refine k (i+1,_) ⟨by simp only;omega,?_,by simp;omega⟩ (by simp only;omega)
  simp only;rw[u,Yo,W8,F,VB,N8,Yj];congr 2;simp only[Yy,VH,Y9,Yw];rw[YY (by omega)]) FF (0,j) ⟨YL _,by simp[ed],by simp only;omega⟩ (by simp only[FF];omega)
 obtain⟨x,e,rfl⟩:=this;exact e
def Ni(k r:bD)(H:TC k.Trail)(j:NK r):∃s,Cp (dN k r).Entries r.Trail.Entries s∧tt FF k r=some ((iL k r s).map Rec.b)∧∀x,x∈iL k r s→x.ok:=by
 have R:=j.el;have b0:=j.b;have bl:=j.l;have C:(dN k r).Entries.length≤10000:=by
  have:=H.ok.len;unfold dN;split
  ·exact Nv (by omega)
  ·omega
 obtain⟨x,e0,s,rfl,q⟩:=Zp1 r (dN k r).Entries C;have O:=q.l2;refine⟨s,q,?_,?_⟩
 ·suffices h:dh (tt FF k r) λ y=>y=(iL k r s).map Rec.b by
   obtain⟨y,e,rfl⟩:=h;exact e
  unfold tt;refine bh (Q:=λ b=>b=!decide (k.Term=r.Term∧k.bn=r.bn)) (bu (λ e=>.ret ?_) λ e=>.ret ?_) λ b _ M=>?_
  ·have:k.Term≠r.Term:=by simpa using e
   simp[this]
  ·have:k.Term=r.Term:=by simpa using e
   by_cases z:k.bn=r.bn<;>simp[this,z]
  refine bh (Q:=λ l=>l=(gC k r).map Rec.b) (bu (λ e=>?_) λ e=>.ret ?_) λ l1 _ h1=>?_
  ·rw[M]at e;have E:¬(k.Term=r.Term∧k.bn=r.bn):=λ z=>by rw[Y2 z]at e;cases e
   simp only[mH,Y1];refine bJ (Fk (x:=.lC r.Term r.bn) ⟨j.t,j.v⟩) (bV (by decide) (.ret ?_))
   unfold gC;rw[if_neg E];rfl
  ·rw[M]at e;have B:k.Term=r.Term∧k.bn=r.bn:=V5 λ z=>by rw[Ye z]at e;cases e
   unfold gC;rw[if_pos B];rfl
  have T:l1.length≤1:=by rw[h1];unfold gC;split<;>simp
  refine bh (Q:=λ b=>b=decide (hQ k r)) (bu (λ e=>.ret ?_) λ e=>bu (λ F=>.ret ?_) λ F=>.ret ?_) λ b2 _ p=>?_
  ·have:k.Trail.an≠r.Trail.an:=by simpa using e
   exact(Y2 (show hQ k r from λ z=>this z.1)).symm
  ·have:k.Trail.au≠r.Trail.au:=by simpa using F
   exact(Y2 (show hQ k r from λ z=>this z.2.1)).symm
  ·have U:k.Trail.an=r.Trail.an:=by simpa using e
   have Z:k.Trail.au=r.Trail.au:=by simpa using F
   by_cases z:k.bj=r.bj
   ·rw[Ye (λ h:hQ k r=>h ⟨U,Z,z⟩),show(k.bj==r.bj)=true by simpa using z];rfl
   ·rw[Y2 (show hQ k r from λ h=>z h.2.2),show(k.bj==r.bj)=false by simpa using z];rfl
  refine bh (Q:=λ y:List aa×Int×Int×List bx=>y.1=l1++(gh k r).map Rec.b∧y.2.1=(dN k r).an∧y.2.2.2=(dN k r).Entries) (bu (λ e=>?_) λ e=>.ret ?_) λ y _ X=>?_
  ·have e:=YM (p.symm.trans e);simp only[mH,wm,Y1];refine bJ (Fk (x:=.base r.Trail.an r.Trail.au r.bj) ⟨⟨by omega,by omega⟩,j.bt,j.s⟩) (bV (by unfold bI;omega) (bJ (M0 H _ _) (.ret ?_)))
   unfold gh dN;rw[if_pos e,if_pos e];exact⟨rfl,rfl,rfl⟩
  ·have e:=Wb (p.symm.trans e);unfold gh dN;rw[if_neg e,if_neg e];simp
  obtain⟨l2,c1,c2,c3⟩:=y;obtain⟨u,rfl,rfl⟩:=X;simp only at u⊢;have Y:l2.length≤2:=by rw[u];unfold gh;split<;>simp<;>omega
  refine bJ e0 (bV (by omega) (bV (by omega) (bV (Yg _) ?_)))
  refine bJ (Zp0 r j _ s xT O l2 (by omega)) ?_
  have o:∀(l:List bx) (b:Int),(ed b l).length=l.length:=λ l=>by
   induction l with
   |nil=>intro b;rfl
   |cons a l ih=>intro b;simp only[ed,Yh,ih]
  refine bh (Q:=λ b=>b=decide (s=r.Trail.Entries.length∧s<(dN k r).Entries.length)) (bu (λ e=>.ret ?_) λ e=>.ret ?_) λ b3 _ A=>?_
  ·have e:s=r.Trail.Entries.length:=by
    have:(s:Int)=(r.Trail.Entries.length:Int):=by simpa using e
    omega
   rw[Ya];exact Ue.2 ⟨λ z=>⟨e,by omega⟩,λ z=>by omega⟩
  ·have e:s≠r.Trail.Entries.length:=by
    intro z;rw[z]at e;simp at e
   exact(Ye λ z=>e z.1).symm
  refine bh (Q:=λ l=>l=l2++(ed ((dN k r).an+s) (r.Trail.Entries.drop s)).map Rec.b++(iI k r s).map Rec.b) (bu (λ e=>?_) λ e=>.ret ?_) λ l4 _ V=>.ret ?_
  ·have e:=YM (A.symm.trans e);have hbm:=xT (k:=k) (r:=r);simp only[mH,Y1];rw[dj (x:=(dN k r).an+(s:Int)) (by omega) (by omega)]
   refine bJ (Fk (x:=.fin ((dN k r).an+s)) ⟨by omega,by omega⟩) (bV (by simp only[Y8,Ya,o,Yw];unfold bI;omega) (.ret ?_))
   unfold iI;rw[if_pos e];rfl
  ·have e:=Wb (A.symm.trans e);unfold iI;rw[if_neg e];simp
  ·rw[V,u,h1];unfold iL;simp[Yo]
 ·intro x i;unfold iL at i;simp only[YA]at i;rcases i with i|i|i|i
  ·unfold gC at i;split at i
   ·cases i
   ·simp only[Yu]at i;subst i;exact⟨j.t,j.v⟩
  ·unfold gh at i;split at i
   ·simp only[Yu]at i;subst i;exact⟨⟨by omega,by omega⟩,j.bt,j.s⟩
   ·cases i
  ·have:∀(l:List bx) (b:Int),0≤b→b+l.length≤1099511627776→(∀e∈l,n63 e.Term∧e.Data.length≤65536)→∀x,x∈ed b l→x.ok:=λ l=>by
    induction l with
    |nil=>intro b _ _ _ x i;cases i
    |cons a l ih=>
     intro b h1 u J x i;simp only[Yh]at u;rcases Yr.1 i with rfl|i
     ·exact⟨⟨by omega,by omega⟩,J a (Yp ..)⟩
     ·exact ih (b+1) (by omega) (by omega) (λ e B=>J e (Yn _ B)) x i
   exact this _ _ (by rw[xT];omega) (by rw[xT,Yw];omega) (λ e B=>j.e e (Wq B)) x i
  ·unfold iI at i;split at i
   ·simp only[Yu]at i;subst i;exact⟨by rw[xT];omega,by rw[xT];omega⟩
   ·cases i
def fold(k:bD)(rs:List Rec):bD:=rs.foldl ap k
def sj(k:bD)(a b:List Rec):fold k (a++b)=fold (fold k a) b:=List.foldl_append
def I3{P:bD→Prop}{k:bD}{a b:List Rec}(h1:∀m,P (fold k (a.take m)))(i:∀m,P (fold (fold k a) (b.take m))):∀m,P (fold k ((a++b).take m)):=λ m=>by
 rw[Ud];by_cases q:m≤a.length
 ·rw[show m-a.length=0 by omega,Ul,YI];exact h1 m
 ·rw[Yk (by omega),sj];exact i _
def tv(k:bD)(T V:Int)(t:ca)(s:aj):bD:=bD.mk k.Id k.bg T V 0 0 t s t.an 10 10 [] [] []
def I':∀(l:List bx) (k:bD) (T V:Int) (t:ca) (s:aj) (n:Nat),n≤t.Entries.length→l≠[]→
 fold (tv k T V t s) (ed (t.an+n) l)=tv k T V (ca.mk t.an t.au (t.Entries.take n++l)) s
 | [],_,_,_,_,_,_,_,h=>absurd rfl h
 |a::l,k,T,V,t,s,n,hn,_=>by
  have e1:ap (tv k T V t s) (.mQ (t.an+n+1) a.Term a.Data)=tv k T V (ca.mk t.an t.au (t.Entries.take n++[a])) s:=by
   unfold ap nO tv jF;simp only;rw[show(t.an+(n:Int)+1-t.an-1).toNat=n by omega]
  simp only[ed,fold,Vw];rw[e1];cases l with
  |nil=>rfl
  |cons b r=>
   have:=I' (b::r) k T V (ca.mk t.an t.au (t.Entries.take n++[a])) s (n+1) (by simp;omega) (by simp)
   unfold fold at this;rw[show t.an+(n:Int)+1=t.an+((n+1:Nat):Int) by omega]
   rw[this];simp only;rw[Yk (by simp;omega),Yo];rfl
def N9:∀(l:List bx) (b:Int) (m:Nat),(ed b l).take m=ed b (l.take m)
 | [],b,m=>by simp[ed]
 |a::l,b,0=>by simp[ed]
 |a::l,b,m+1=>by simp[ed,N9 l]
def path{P:bD→Prop}{k r:bD}{s:Nat}(hk:jF k=k)(o:Cp (dN k r).Entries r.Trail.Entries s)(h0:P k)(h1:P (tv k r.Term r.bn k.Trail k.bj))
 (h2:¬hQ k r→∀q≤r.Trail.Entries.length,(∀n≤k.Trail.Entries.length,n≤r.Trail.Entries.length→k.Trail.Entries.take n=r.Trail.Entries.take n→n≤q)→P (tv k r.Term r.bn (ca.mk k.Trail.an k.Trail.au (r.Trail.Entries.take q)) k.bj))
 (h3:hQ k r→dN k r=r.Trail∧P (tv k r.Term r.bn r.Trail r.bj)):
 (∀m,P (fold k ((iL k r s).take m)))∧fold k (iL k r s)=tv k r.Term r.bn r.Trail r.bj:=by
 have T:k=tv k k.Term k.bn k.Trail k.bj:=by
  rw[←hk];rfl
 have f1:fold k (gC k r)=tv k r.Term r.bn k.Trail k.bj:=by
  unfold gC fold;split
  ·rename_i e;rw[Vm,←e.1,←e.2];exact T
  ·rfl
 have O:∀m,P (fold k ((gC k r).take m)):=λ m=>by
  cases m with
  |zero=>exact h0
  |succ m=>
   rw[Yk (by unfold gC;split<;>simp),f1];exact h1
 by_cases B:hQ k r
 ·obtain⟨E,q2⟩:=h3 B;have f2:fold (tv k r.Term r.bn k.Trail k.bj) (gh k r)=tv k r.Term r.bn r.Trail r.bj:=by
   have:j9 k.Trail r.Trail.an r.Trail.au=r.Trail:=by have:=E;unfold dN at this;rwa [if_pos B]at this
   unfold gh fold;rw[if_pos B];simp only[Vw,Vm,ap,nO,jF,tv];rw[this]
  have J:s=r.Trail.Entries.length:=by
   have a:=o.l1;have b:=o.l2;rw[E]at a;refine Nat.le_antisymm b (Nat.not_lt.1 λ z=>?_);exact o.ne _ _ (by rw[E];exact Y3 z) (Y3 z) rfl
  have e1:ed ((dN k r).an+s) (r.Trail.Entries.drop s)=[]:=by rw[J,Vq];rfl
  have Q:iI k r s=[]:=by unfold iI;rw[if_neg (by rw[E];omega)]
  unfold iL;rw[e1,Q,YI,YI];refine⟨I3 O λ m=>?_,by rw[sj,f1,f2]⟩
  rw[f1];cases m with
  |zero=>exact h1
  |succ m=>rw[Yk (by unfold gh;split<;>simp),f2];exact q2
 ·have i:dN k r=k.Trail:=by unfold dN;rw[if_neg B]
  obtain⟨b1,C,H⟩:=VG.1 B;have hp:=h2 B;have e0:gh k r=[]:=by unfold gh;rw[if_neg B]
  rw[i]at o;have p:∀n≤k.Trail.Entries.length,n≤r.Trail.Entries.length→k.Trail.Entries.take n=r.Trail.Entries.take n→n≤s:=λ n n1 Z U=>by
   refine Nat.not_lt.1 λ z=>?_;have x:=Y3 (show s<k.Trail.Entries.length by omega)
   have y:=Y3 (show s<r.Trail.Entries.length by omega)
   refine o.ne _ _ x y ?_;have:=YU (λ l=>l[s]?) U;simp only[WU z]at this
   rw[x,y]at this;exact W5 this
  have M:=o.l1;have R:=o.l2;have Y:∀j,0<j→j≤r.Trail.Entries.length-s→fold (tv k r.Term r.bn k.Trail k.bj) (ed (k.Trail.an+s) ((r.Trail.Entries.drop s).take j))=tv k r.Term r.bn (ca.mk k.Trail.an k.Trail.au (r.Trail.Entries.take (s+j))) k.bj:=λ j j0 j1=>by
   rw[I' _ k r.Term r.bn k.Trail k.bj s M (λ z=>by have:=YU List.length z;simp at this;omega),o.eq,←List.take_add]
  have A:∀m,P (fold (tv k r.Term r.bn k.Trail k.bj) ((ed (k.Trail.an+s) (r.Trail.Entries.drop s)).take m)):=λ m=>by
   rw[N9];by_cases z:0<min m (r.Trail.Entries.length-s)
   ·rw[show(r.Trail.Entries.drop s).take m=(r.Trail.Entries.drop s).take (min m (r.Trail.Entries.length-s)) by
     by_cases q:m≤r.Trail.Entries.length-s
     ·rw[YY q]
     ·rw[Nat.min_eq_right (by omega),Yk (by rw[Yw];omega),Yk (by rw[Yw];omega)]]
    rw[Y _ z (by omega)]
    exact hp _ (by omega) λ n n1 Z U=>by have:=p n n1 Z U;omega
   ·rw[show(r.Trail.Entries.drop s).take m=[] by
     apply WR;rw[Y9,Yw];omega]
    exact h1
  unfold iL;rw[e0,YQ,i];by_cases F:s=r.Trail.Entries.length∧s<k.Trail.Entries.length
  ·have e1:iI k r s=[.fin (k.Trail.an+s)]:=by unfold iI;rw[i,if_pos F]
   have Q:ed (k.Trail.an+s) (r.Trail.Entries.drop s)=[]:=by rw[F.1,Vq];rfl
   have X:r.Trail=ca.mk k.Trail.an k.Trail.au (r.Trail.Entries.take s):=by
    rw[b1,C,F.1,W7]
   have V:fold (tv k r.Term r.bn k.Trail k.bj) [.fin (k.Trail.an+s)]=tv k r.Term r.bn r.Trail r.bj:=by
    unfold fold;simp only[Vw,Vm,ap,nO,jF,tv];rw[show(k.Trail.an+(s:Int)-k.Trail.an).toNat=s by omega,o.eq,←H,←X,b1]
   rw[e1,Q,YQ];refine⟨I3 O λ m=>?_,by rw[sj,f1,V]⟩
   rw[f1];cases m with
   |zero=>exact h1
   |succ m=>
    rw[Yk (by simp),V]
    have:=hp s R p;rw[H]at this;rw[X];exact this
  ·have e1:iI k r s=[]:=by unfold iI;rw[i,if_neg F]
   rw[e1,YI];refine⟨I3 O λ m=>by rw[f1];exact A m,?_⟩
   rw[sj,f1];by_cases z:s<r.Trail.Entries.length
   ·have:=Y (r.Trail.Entries.length-s) (by omega) (Yg _)
    rw[Yk (by rw[Yw];omega),Yk (by omega)]at this
    rw[this,b1,C,H]
   ·have J:s=r.Trail.Entries.length:=by omega
    have u:k.Trail.Entries=r.Trail.Entries:=by
     have:=o.eq;rwa [Yk (by omega),Yk (by omega)]at this
    rw[J,Vq];show tv k r.Term r.bn k.Trail k.bj=_;rw[H,show k.Trail=r.Trail by cases xh:k.Trail;cases Hg:r.Trail;rw[xh,Hg]at b1 C u;simp only at b1 C u;rw[b1,C,u]]
def Gl(X:aa)(R:List aa):Prop:=∃k t,X=cd k R t∧k≤R.length∧eX R∧Un t
def NW(Y:aa):Prop:=∀size R,nA FF Y≠some (size,true,R)
def Gl.read{X:aa}{R:List aa}(h:Gl X R)(q:X.length≤1048576):∃size:Nat,nA FF X=some ((size:Int),true,R)∧R.length≤1048576∧(size=X.length→∃k,X=cd k R []∧k≤R.length):=by
 obtain⟨k,t,rfl,i,p,o⟩:=h;have j:=B9 k R t;refine⟨(cd k R t).length-t.length,?_,by omega,λ e=>?_⟩
 ·rw[JD k R t (by omega) p o q,Y2 i]
 ·have ht:t.length≤(cd k R t).length:=by unfold cd;simp;omega
  have:t=[]:=WR (by
   have h1:1≤(dd (bH k)).length:=by have:=IL (bH k);omega
   have h2:(cd k R t).length=(dd (bH k)).length+((R.flatMap dd).length+t.length):=by unfold cd;simp
   omega)
  subst this;exact⟨k,rfl,i⟩
structure DR(c:Int)(fs:Fs)(l:List bP)(R:List aa):Prop where
 di:DI c fs
 wi:WI fs l
 al:∀e∈fs,∃z,1≤z∧z≤999999999∧e.1=bd z
 ct:(R=[]∧∀z Y,1≤z→z≤999999999→az (bd z) fs=some Y→NW Y)∨
  ∃f X,1≤f∧f≤999999999∧az (bd f) fs=some X∧Gl X R∧(∀z Y,f<z→z≤999999999→az (bd z) fs=some Y→NW Y)∧∀w∈l,w.name≠bd f
def Zpk(fs:Fs):(jd fs).Pairwise (λ a b=>b≤a):=by
 unfold jd;rw[List.pairwise_reverse];have:=List.pairwise_mergeSort (le:=λ x y:Int=>decide (x≤y)) (λ a b c h1 h2=>by simp only[YB]at*;omega) (λ a b=>by simp only[Bool.or_eq_true,YB];omega) (((gV (fs.map Prod.fst)).map kb).filter λ z=>decide (0<z))
 exact this.imp λ h=>YM h
structure RJ(R:List aa)(zs:bL)(c:Int)(fs:Fs)(rs:List aa)(cl:Bool)(file:aj)(last:Nat)(l:List bP):Prop where
 di:DI c fs
 wi:WI fs l
 al:∀e∈fs,∃z,1≤z∧z≤999999999∧e.1=bd z
 de:zs.Pairwise (λ a b=>b<a)
 Ar:∀z∈zs,1≤z∧z≤999999999∧∃x,az (bd z) fs=some x
 la:last≤999999999
 fl:(file=[]∧rs=[]∧cl=false∧(∀e∈fs,∃z∈zs,e.1=bd z)∧DR c fs l R)∨
  ∃f X size,file=bd f∧1≤f∧f≤last∧(∀z∈zs,z<f)∧az (bd f) fs=some X∧Gl X R∧rs=R∧nA FF X=some (((size:Nat):Int),true,R)∧cl=decide (size=X.length)∧(∀w∈l,w.name≠bd f)∧∀e∈fs,(∃z∈zs,e.1=bd z)∨e.1=bd f
def Mv{q:aj}{l:List bP}{w:bP}(h:w∈gu q l):w∈l∧w.name≠q:=by
 have:=Wl.1 h;exact⟨this.1,by simpa using this.2⟩
def Xg(R:List aa):∀(T:bL) (c:Int) (fs:Fs) (rs:List aa) (cl:Bool) (l:List bP) (file:aj) (last:Nat) (eA:Int),RJ R T c fs rs cl file last l→(file≠[]→eA=(rs.length:Int))→
 ∃c' dO oH LV l' y M Q,lx FF (T.map (λ n:Nat=>(n:Int))) c fs rs cl l file (last:Int) eA=some (c',dO,oH,LV,l',y,((M:Nat):Int),Q)∧RJ R [] c' dO oH LV y M l'∧(y≠[]→Q=(oH.length:Int)):=by
 intro T;induction T with
 |nil=>
  intro c fs rs cl l file last eA h hc;exact⟨c,fs,rs,cl,l,file,last,eA,by rw[VH];rfl,h,hc⟩
 |cons z T ih=>
  intro c fs rs cl l file last eA h hc;obtain⟨z1,z2,x,V⟩:=h.Ar z (Yp ..);have F:=List.pairwise_cons.1 h.de;have K9:=qf V;have jL:=vZ K9;simp only at jL;have hle:=h.di.le;have hl:=h.wi.len h.di;have HD:=h.la;obtain⟨size,whole,B,Z, -⟩:=Zpc x (h.di.qD _ K9) (by omega)
  rw[Yy,Xf z z2 _ c fs rs cl l file (last:Int) eA h.di (by omega) x V size whole B Z,QO]
  by_cases u:file≠[]∨whole=false
  ·rw[if_pos u];have hD:=h.di.del (bd z) x V;have j:∀p,p≠bd z→az p (ei (bd z) fs)=az p fs:=λ p hp=>J6 hp fs;have A:∀e,e∈ei (bd z) fs→e∈fs∧e.1≠bd z:=λ e C=>⟨(Jq fs).subset C,E7.1 (JR h.di.nk) e C⟩
   have qw:∀o∈T,bd o≠bd z:=λ o i q=>by
    have:=F.1 o i;have:=xM (h.Ar o (Yn _ i)).2.1 z2 q;omega
   have J:∀Y,az (bd z) (ei (bd z) fs)=some Y→False:=λ Y q=>by rw[JR h.di.nk]at q;cases q
   have hN:RJ R T (c-(x.length:Int)) (ei (bd z) fs) rs cl file (max z last) (gu (bd z) l):=by
    refine⟨hD,h.wi.del _,λ e C=>h.al e (A e C).1,F.2,λ o i=>?_,by omega,?_⟩
    ·obtain⟨a,b,x',mL⟩:=h.Ar o (Yn _ i);exact⟨a,b,x',by rw[j _ (qw o i),mL]⟩
    ·rcases h.fl with ⟨U,q2,q3,q4,q5⟩|⟨f,X,sz,U,q2,q3,q4,q5,q6,q7,q8,q9,DP,GG⟩
     ·refine .inl ⟨U,q2,q3,λ e C=>?_,hD,h.wi.del _,λ e C=>h.al e (A e C).1,?_⟩
      ·obtain⟨rO,y5⟩:=A e C;obtain⟨o,i,E⟩:=q4 e rO;rcases Yr.1 i with rfl|i
       ·exact absurd E y5
       ·exact⟨o,i,E⟩
      ·have hw:whole=false:=u.resolve_left (λ k=>k U);rcases q5.ct with ⟨a1,a2⟩|⟨f,X,f1,f2,f3,f4,f5,f6⟩
       ·refine .inl ⟨a1,λ o Y b1 b2 O=>?_⟩;by_cases k:bd o=bd z
        ·rw[k]at O;exact(J Y O).elim
        ·rw[j _ k]at O;exact a2 o Y b1 b2 O
       ·have H:bd f≠bd z:=λ k=>by
         rw[k,V]at f3;cases f3;obtain⟨sz,r1, -⟩:=f4.read (by omega)
         rw[r1]at Z;cases Z;cases hw
        refine .inr ⟨f,X,f1,f2,by rw[j _ H];exact f3,f4,λ o Y b1 b2 O=>?_,λ w hw=>f6 w (Mv hw).1⟩
        by_cases k:bd o=bd z
        ·rw[k]at O;exact(J Y O).elim
        ·rw[j _ k]at O;exact f5 o Y b1 b2 O
     ·have H:bd f≠bd z:=λ k=>by
       have:=q4 z (Yp ..);have:=xM (by omega) z2 k
       omega
      refine .inr ⟨f,X,sz,U,q2,by omega,λ o i=>q4 o (Yn _ i),by rw[j _ H];exact q5,q6,q7,q8,q9,λ w hw=>DP w (Mv hw).1,λ e C=>?_⟩
      obtain⟨rO,y5⟩:=A e C;rcases GG e rO with ⟨o,i,E⟩|E
      ·rcases Yr.1 i with rfl|i
       ·exact absurd E y5
       ·exact .inl ⟨o,i,E⟩
      ·exact .inr E
   exact ih _ _ rs cl (gu (bd z) l) file (max z last) eA hN hc
  ·rw[if_neg u];have Bs:file=[]:=V5 λ q=>u (.inl q);have hw:whole=true:=by
    cases whole with
    |true=>rfl
    |false=>exact absurd (.inr rfl) u
   subst hw;have hN:RJ R T c fs B (decide (size=x.length)) (bd z) (max z last) l∧B=R:=by
    rcases h.fl with ⟨U,q2,q3,q4,q5⟩|⟨f,X,sz,U,_⟩
    ·
     rcases q5.ct with ⟨a1,a2⟩|⟨f,X,f1,f2,f3,f4,f5,f6⟩
     ·exact absurd Z (a2 z x z1 z2 V _ _)
     ·have H:f=z:=by
       obtain⟨o,i,E⟩:=q4 _ (qf f3);have G0:=h.Ar o i;have e:=xM f2 G0.2.1 E;subst e;rcases Yr.1 i with e|i
       ·exact e
       ·have:=F.1 f i;exact absurd Z (f5 z x this z2 V _ _)
      subst H;rw[V]at f3;cases f3;obtain⟨sz,r1, -⟩:=f4.read (by omega)
      have fg:sz=size∧B=R:=by rw[r1]at Z;cases Z;exact⟨rfl,rfl⟩
      obtain⟨rfl,rfl⟩:=fg;refine⟨⟨h.di,h.wi,h.al,F.2,λ o i=>h.Ar o (Yn _ i),by omega,.inr ⟨f,x,sz,rfl,z1,by omega,λ o i=>F.1 o i,V,f4,rfl,r1,rfl,f6,λ e C=>?_⟩⟩,rfl⟩
      obtain⟨o,i,E⟩:=q4 e C;rcases Yr.1 i with rfl|i
      ·exact .inr E
      ·exact .inl ⟨o,i,E⟩
    ·rw[Bs]at U;exact absurd U.symm (EO f)
   exact ih _ _ B _ l (bd z) (max z last) (B.length:Int) hN.1 λ _=>rfl
def TM{k:Nat}{rs:List aa}(hk:rs.length<k)(j:k≤1048576)(h:eX rs)(i:(cd k rs []).length≤1048576):NW (cd k rs []):=λ size R q=>by
 rw[JD k rs [] (by omega) h s9 i,Ye (by omega)]at q
 cases q
def ti{f z:Nat}{X Y:aa}(i:f≤999999999)(j:z≤999999999)(h:az (bd z) [(bd f,X)]=some Y):z=f∧Y=X:=by
 simp only[az]at h;split at h
 ·rename_i e;cases h;exact⟨xM j i e,rfl⟩
 ·cases h
structure UD(f:Nat)(rs:List aa)(X:aa):Prop where
 f1:1≤f
 f2:f≤999999999
 k:∃k,X=cd k rs []∧k≤rs.length
 rc:eX rs
 xl:X.length≤1048576
def M7{fs:Fs}{f:Nat}{X:aa}(hn:(fs.map Prod.fst).Nodup)(i:∀e∈fs,e.1=bd f)(j:az (bd f) fs=some X):fs=[(bd f,X)]:=by
 match fs with
 | []=>cases j
 | [e]=>
  have:=i e (Yp ..);obtain⟨a,b⟩:=e;simp only at this;subst this;simp only[az,Yz]at j;cases j;rfl
 |e::g::r=>
  exfalso;have h1:=i e (Yp ..);have o:=i g (Yn _ (Yp ..));simp only[Yy,VA,Yr]at hn;exact hn.1 (.inl (h1.trans o.symm))
def NQ{f:Nat}{X:aa}{l:List bP}(h:WI [(bd f,X)] l)(j:∀w∈l,w.name≠bd f):l=[]:=by
 match l with
 | []=>rfl
 |w::r=>
  exfalso;have h1:=h.pos w (Yp ..);have h2:=Fb h.pos (Yp ..);have o:=h.le w.name;have i:=j w (Yp ..);simp only[az,if_neg i,Ve,Yx]at o;omega
def Xb(c:Int)(fs:Fs)(l:List bP)(R:List aa)(h:DR c fs l R):
 (∃J dO l',uX FF c fs l=some (.inl (3,J,dO,[],l'))∧DR J dO l' R)∨
 ∃f n X,uX FF c fs l=some (.inr (R,0,(X.length:Int),[(bd f,X)],bd f,((n:Nat):Int),(R.length:Int),[]))∧UD f R X∧f≤n∧n≤999999999:=by
 have hD:=h.di;obtain⟨zs,z1,z2,z3,z4⟩:=ZZ fs hD.nk;have O:zs.Pairwise (λ a b=>b<a):=by
  have h1:=Zpk fs;rw[z1,List.pairwise_map]at h1;exact(h1.and z2).imp λ⟨a,b⟩=>by omega
 have jb:∀e∈fs,∃z∈zs,e.1=bd z:=λ e y=>by
  obtain⟨z,a,b,q⟩:=h.al e y;exact z4 e y (by rw[q,XM a b];omega)
 have hI:RJ R zs c fs [] false [] 0 l:=⟨hD,h.wi,h.al,O,z3,by omega,.inl ⟨rfl,rfl,rfl,jb,h⟩⟩
 obtain⟨J,dO,o,V,l',p,i,E,g1,A,gc⟩:=Xg R zs c fs [] false l [] 0 0 hI λ q=>absurd rfl q;rw[Xc c fs l hD,z1,show lx FF (zs.map (λ n:Nat=>(n:Int))) c fs [] false l [] 0 0=_ from g1,Y1]
 have HD:=A.la;have hle:=A.di.le;have jy:=A.wi.len A.di;have key:V=false→o=R→R.length≤1048576→eX R→(∀e,e∈base p dO→False)→(∀k:Nat,i<k→k≤999999999→az (bd k) dO=none)→(p=[]∨∃x,az p dO=some x)→DR J dO l' R→(∀f X,az (bd f) dO=some X→f≤999999999→f≤i)→
  (∃c2 LQ l2,v8 (J,dO,o,V,l',p,(i:Int),E)=some (.inl (3,c2,LQ,[],l2))∧DR c2 LQ l2 R)∨
  ∃f n X,v8 (J,dO,o,V,l',p,(i:Int),E)=some (.inr (R,0,(X.length:Int),[(bd f,X)],bd f,((n:Nat):Int),(R.length:Int),[]))∧UD f R X∧f≤n∧n≤999999999:=by
  intro iG nU DZ hR B nG R3 H C;subst iG;subst nU;rcases OQ o p i E J dO l' DZ (λ x hx=>(hR x hx).2) HD A.di (by omega) nG R3 with ⟨g,x,hx,DV⟩|⟨c2,c3,SK,l3,g,_,gd,gq,gf⟩|⟨k1,k2,c3,l3,g,k3,k4,k5,kw⟩
  ·have:=(hR x hx).1;omega
  ·refine .inl ⟨c3,SK,l3,Zd g,?_⟩;obtain⟨d1,d2⟩:=gd A.wi;rcases gf with rfl|⟨_,n9,j,hj,rfl⟩
   ·refine⟨d1,d2,H.al,?_⟩;rcases H.ct with a|⟨f,X,f1,f2,M,f4,f5,f6⟩
    ·exact .inl a
    ·refine .inr ⟨f,X,f1,f2,M,f4,f5,λ w hw=>?_⟩;rcases gq w hw with q|q
     ·exact f6 w q
     ·have:=C f X M f2;intro e;rw[q]at e;unfold bd at e;have:=EV (a:=i+1) (b:=f) (by omega) (by omega) (Vb e)
      omega
   ·have T:=nG (i+1) (by omega) n9
    have ho:∀z Y,z≤999999999→az (bd z) (dO++[(bd (i+1),cd o.length (o.take j) [])])=some Y→z=i+1∧Y=cd o.length (o.take j) []∨az (bd z) dO=some Y:=λ z Y hz q=>by
     cases e:az (bd z) dO with
     |some W=>rw[Cq e]at q;cases q;exact .inr rfl
     |none=>rw[xK e]at q;exact .inl (ti n9 hz q)
    have hm:=vZ (qf (show az (bd (i+1)) (dO++[(bd (i+1),cd o.length (o.take j) [])])=some _ by rw[xK T];exact qL _ _))
    simp only at hm;have:=d1.le;have D4:NW (cd o.length (o.take j) []):=TM (by rw[Y9];omega) (by omega) (λ x hx=>hR x (YZ hx)) (by omega)
    refine⟨d1,d2,λ e y=>?_,?_⟩
    ·rcases YA.1 y with y|y
     ·exact H.al e y
     ·simp only[Yu]at y;subst y;exact⟨i+1,by omega,n9,rfl⟩
    ·rcases H.ct with ⟨a1,a2⟩|⟨f,X,f1,f2,M,f4,f5,f6⟩
     ·refine .inl ⟨a1,λ z Y b1 F b3=>?_⟩;rcases ho z Y F b3 with ⟨-,rfl⟩|q
      ·exact D4
      ·exact a2 z Y b1 F q
     ·refine .inr ⟨f,X,f1,f2,Cq M,f4,λ z Y b1 F b3=>?_,λ w hw=>?_⟩
      ·rcases ho z Y F b3 with ⟨-,rfl⟩|q
       ·exact D4
       ·exact f5 z Y b1 F q
      ·rcases gq w hw with q|q
       ·exact f6 w q
       ·rw[q];intro e;have:=xM n9 f2 e;have:=C f X M f2;omega
  ·right;have hb:base p dO=[]:=List.eq_nil_iff_forall_not_mem.2 B;rw[hb,YQ]at g k3 kw;have hX:(cd o.length o []).length≤1048576:=by
    have:=k3.le;rw[xJ]at this;omega
   have RD:l3=[]:=NQ (kw A.wi) λ w hw=>(k4 w hw).2.1;have By:c3=((cd o.length o []).length:Int):=by have:=k3.eK;rwa [xJ]at this
   refine⟨i+1,i+1,cd o.length o [],?_,⟨by omega,k2,⟨_,rfl,Yg _⟩,k1,hX⟩,Yg _,k2⟩
   have:=TA g;rw[RD,By]at this;exact this
 rcases A.fl with ⟨U,q2,q3,q4,Z⟩|⟨f,X,sz,U,q2,q3,q4,Z,q6,q7,q8,q9,DP,GG⟩
 ·have B:dO=[]:=List.eq_nil_iff_forall_not_mem.2 λ e y=>by
   obtain⟨z,hz,_⟩:=q4 e y;cases hz
  have Q:R=[]:=by
   rcases Z.ct with a|⟨f,X,f1,f2,M,_⟩
   ·exact a.1
   ·rw[B]at M;cases M
  refine key q3 (by rw[q2,Q]) (by rw[Q];simp) (by rw[Q];intro r hr;cases hr) (by rw[U,B];intro e y;cases y) (λ k _ _=>by rw[B];rfl) (.inl U) Z (λ f X h1 h2=>by rw[B]at h1;cases h1)
 ·have Ro:∀e∈dO,e.1=bd f:=λ e y=>by
   rcases GG e y with ⟨z,hz,_⟩|q
   ·cases hz
   ·exact q
  have u:=M7 A.di.nk Ro Z;have jL:=vZ (qf Z);simp only at jL;obtain⟨KZ,r1,r2,r3⟩:=q6.read (by omega)
  have fg:KZ=sz:=by rw[q8]at r1;cases r1;rfl
  subst fg;have LH:eX R:=by obtain⟨_,_,_,_,a,_⟩:=q6;exact a
  by_cases hs:KZ=X.length
  ·obtain⟨k,e1,e2⟩:=r3 hs;right;rw[q9,Y2 hs,U,gc (by rw[U];exact EO f)]
   have vG:l'=[]:=NQ (f:=f) (X:=X) (by rw[←u];exact A.wi) DP
   have uw:J=(X.length:Int):=by have:=A.di.eK;rwa [u,xJ]at this
   refine⟨f,i,X,?_,⟨q2,by omega,⟨k,e1,e2⟩,LH,by omega⟩,q3,HD⟩
   rw[Zu,q7,u,vG,uw]
  ·refine key (by rw[q9,Ye hs]) q7 r2 LH ?_ ?_ (.inr ⟨X,by rw[U];exact Z⟩) ⟨A.di,A.wi,A.al,.inr ⟨f,X,q2,by omega,Z,q6,λ z Y b1 F b3=>?_,DP⟩⟩ (λ z Y b1 F=>?_)
   ·intro e y;rw[U,base,if_neg (EO f),u,NN]at y;cases y
   ·intro k h1 h2;cases e:az (bd k) dO with
    |none=>rfl
    |some Y=>
     rw[u]at e;have:=(ti (by omega) h2 e).1;omega
   ·rw[u]at b3;have:=(ti (by omega) F b3).1;omega
   ·rw[u]at b1;have:=(ti (by omega) F b1).1;omega
def OO:∀(rs:List aa) (q:aa),eX rs→q<+:rs.flatMap dd→∃j t,q=(rs.take j).flatMap dd++t∧j≤rs.length∧Un t
 | [],q,_,h=>⟨0,[],by rw[List.flatMap_nil,List.prefix_nil]at h;simp[h],Yg _,s9⟩
 |r::rs,q,hR,h=>by
  rw[U6]at h;have i:=hR r (Yp ..);by_cases k:q.length<(dd r).length
  ·exact⟨0,q,by simp,YL _,EN r q i.1 i.2 (WP h (WD ..) (by omega)) k⟩
  ·obtain⟨o,rfl⟩:dd r<+:q:=WP (WD ..) h (by omega)
   have p:o<+:rs.flatMap dd:=(List.prefix_append_right_inj _).1 h;obtain⟨j,t,e,h1,y⟩:=OO rs o (λ x u=>hR x (Yn _ u)) p;exact⟨j+1,t,by rw[e,List.take_succ_cons,U6,Yo],by simp only[Yh];omega,y⟩
def Xk{b:aa}(h:Un b):NW b:=λ size R q=>by
 obtain⟨e,j,i⟩:=h;unfold nA at q;rw[i,Y1]at q;simp only at q;rw[show((e != 0)=true)from by simpa using j,Y4]at q
 cases q
def TN{k:Nat}{rs:List aa}{Y:aa}(hk:rs.length<k)(E:k≤1048576)(h:eX rs)(hl:(cd k rs []).length≤1048576)(i:Y<+:cd k rs []):NW Y:=by
 have o:=i.length_le;have y:(bH k).length≤10:=(qg 9 k).2;by_cases q:Y.length<(dd (bH k)).length
 ·exact Xk (EN (bH k) Y (by omega) (Ck _ _) (WP i (by unfold cd;exact WD ..) (by omega)) q)
 ·obtain⟨Z,rfl⟩:dd (bH k) <+:Y:=WP (by unfold cd;exact WD ..) i (by omega)
  have A:Z<+:rs.flatMap dd:=by
   unfold cd at i;rw[YI]at i;exact(List.prefix_append_right_inj _).1 i
  obtain⟨j,t,e,h1,C⟩:=OO rs Z h A;have u:eX (rs.take j):=λ x B=>h x (YZ B);intro size R z
  have p:dd (bH k)++Z=cd k (rs.take j) t:=by rw[e];rfl
  rw[p,JD k (rs.take j) t (by omega) u C (by rw[←p];omega),Ye (by rw[Y9];omega)]at z
  cases z
def NY(o y:Int)(c:Int)(fs:Fs)(l:List bP)(U:DI c fs)(Z:WI fs l):dh (qk FF o y c fs l) λ r=>DI r.1 r.2∧r.2.map Prod.fst=fs.map Prod.fst∧(∀p,(∀w∈l,w.name≠p)→az p r.2=az p fs)∧∀p Y,az p r.2=some Y→∃X,az p fs=some X∧Y<+:X:=by
 unfold qk;have hl:=Z.len U;refine bh (Q:=λ r=>DI r.1 r.2∧r.2.map Prod.fst=fs.map Prod.fst∧(∀p,(∀w∈l,w.name≠p)→az p r.2=az p fs)∧∀p Y,az p r.2=some Y→∃X,az p fs=some X∧Y<+:X) ?_ λ r _ hr=>.ret hr;rw[Ya,dj (by omega) (by omega)]
 obtain⟨K,hK⟩:∃K:Nat,(if((l.length:Int)<(if((0:Int)>o)then(0:Int)else o))then(l.length:Int)else(if((0:Int)>o)then(0:Int)else o))=(K:Int):=by
  refine⟨Int.toNat _,(Vt ?_).symm⟩
  (repeat' split)<;>omega
 have:=dM (λ n (s:Nat×Int×Fs)=>pz FF o y l n ((s.1:Int)-1) s.2.1 s.2.2) (λ s=>s.1≤l.length∧DI s.2.1 s.2.2∧WI s.2.2 (l.take s.1)∧s.2.2.map Prod.fst=fs.map Prod.fst∧(∀p,(∀w∈l,w.name≠p)→az p s.2.2=az p fs)∧∀p Y,az p s.2.2=some Y→∃X,az p fs=some X∧Y<+:X) (λ s=>s.1) (λ r=>DI r.1 r.2∧r.2.map Prod.fst=fs.map Prod.fst∧(∀p,(∀w∈l,w.name≠p)→az p r.2=az p fs)∧∀p Y,az p r.2=some Y→∃X,az p fs=some X∧Y<+:X) (by
  rintro n ⟨i,c,gs⟩ ⟨h1,A,C,H,M,F⟩ k;simp only at h1 A C H M F k⊢;simp only[pz];rw[hK];refine cq (λ hi=>?_) λ _=>.ret ⟨A,H,M,F⟩;obtain⟨j,rfl⟩:∃j,i=j+1:=⟨i-1,by omega⟩
  have hj:((j+1:Nat):Int)-1=(j:Int):=by omega
  rw[hj]at hi⊢;refine bV (by omega) (cM (by simp;omega) λ _ _ _=>cM (by simp;omega) λ w T hm=>?_)
  rw[Yf]at T;have J:l.take (j+1)=l.take j++[w]:=by rw[W8,T];rfl
  have B:w∈l.take (j+1):=by rw[J];simp
  have R:w∈l:=YZ B;have w5:=C.pos w B;have ws:=Fb C.pos B;have wl:=C.le w.name;have hle:=A.le;cases hg:az w.name gs with
  |none=>rw[hg]at wl;simp only[Ve,Yx]at wl;omega
  |some x=>
   rw[hg,YJ]at wl;have O:=vZ (qf hg);simp only at O;refine bh (Q:=λ z=>∃k:Nat,z=(k:Int)∧(k:Int)≤w.size) ?_ λ z _ V=>?_
   ·refine bu (λ _=>.ret (AR w.size y w5 (by omega))) λ _=>.ret ⟨w.size.toNat,by omega,by omega⟩
   ·obtain⟨z,rfl,V⟩:=V;simp only[YS,Y4,YJ,Ya];have e1:IntKind.wrap IntKind.i64 ((x.length:Int)-(z:Int))=(x.length:Int)-(z:Int):=dj (by omega) (by omega)
    simp only[e1];refine bV (by omega) (bV (by omega) (bV (by have:=A.n64;unfold bI;omega) ?_))
    rw[dj (by omega) (by omega),dj (by have:=A.eK;omega) (by have:=A.eK;omega),show((x.length:Int)-(z:Int)).toNat=x.length-z by omega]
    have E:=A.Ay w.name x (x.length-z) hg (by omega)
    rw[show x.length-(x.length-z)=z by omega]at E
    refine k (j,_,_) ⟨by simp only;omega,E,⟨λ v hv=>C.pos v (by rw[J];exact Vl _ hv),λ p=>?_⟩,by rw[(E8 (x.take (x.length-z)) x hg).1];exact H,λ p u=>?_,λ p Y u=>?_⟩ (by simp only;omega)
    ·have u:=C.le p;rw[J,Jy]at u;simp only[fQ]at u;simp only;rw[Jr];by_cases e:p=w.name
     ·rw[if_pos e,YJ,Y9];subst e;rw[if_pos rfl,hg,YJ]at u;omega
     ·rw[if_neg e];rw[if_neg (λ q=>e q.symm)]at u;omega
    ·simp only;rw[J8 (λ e:p=w.name=>u w R e.symm)];exact M p u
    ·simp only at u;rw[Jr]at u;split at u
     ·rename_i e;cases u;obtain⟨X,a,b⟩:=F w.name x hg;exact⟨X,by rw[e];exact a,(Wp ..).trans b⟩
     ·exact F p Y u) FF (l.length,c,fs) ⟨Yg _,U,by rw[W7];exact Z,rfl,λ _ _=>rfl,λ p Y h=>⟨Y,h,YH _⟩⟩ (by simp only[FF];omega)
 exact this
def UT(k:Nat)(rs i:List aa):cd k (rs++i) []=cd k rs []++i.flatMap dd:=by
 unfold cd;rw[VR];simp[Yo]
def Mu(o p:Int)(f k:Nat)(rs i:List aa)(f1:1≤f)(f2:f≤999999999)(hk:k≤rs.length)(H:eX (rs++i))(C:(cd k (rs++i) []).length≤1048576):
 ∃j y dO,j≤i.length∧qk FF o p ((cd k (rs++i) []).length:Int) [(bd f,cd k (rs++i) [])] (i.map (wv (bd f)))=some (y,dO)∧DR y dO [] (rs++i.take j):=by
 have O:eX i:=λ x A=>H x (List.mem_append_right _ A);have F:eX rs:=λ x A=>H x (Vl _ A)
 have yW:=NF i;have u:=UT k rs i;have V:(cd k rs []).length+(i.flatMap dd).length≤1048576:=by rw[u,Y8]at C;exact C
 obtain⟨j,t,y,h1,Z,h3,E,J,Q, -⟩:=X7 o p (bd f) (cd k rs []) i O (by omega) (by rw[←u];exact C)
 rw[←u]at E;have U:cd k rs []++(i.take j).flatMap dd++t=cd k (rs++i.take j) t:=by
  unfold cd;rw[VR];simp[Yo]
 rw[U]at E J Q;have B:eX (rs++i.take j):=λ x A=>(YA.1 A).elim (F x) λ q=>O x (YZ q);have T:DI y [(bd f,cd k (rs++i.take j) t)]:=by rw[J];exact EA f _ f2 Q (EK B h3)
 refine⟨j,y,_,h1,E,⟨T,WI.nil _,λ e M=>?_,.inr ⟨f,_,f1,f2,qL _ _,⟨k,t,rfl,by rw[Y8];omega,B,Z⟩,λ z Y b1 X b3=>?_,λ w R=>by cases R⟩⟩⟩
 ·simp only[Yu]at M;subst M;exact⟨f,f1,f2,rfl⟩
 ·have:=(ti f2 X b3).1;omega
def S4(k f:Nat)(n:Int)(rs:List aa)(r:aa)(eA:Int)(l:List bP)(f2:f≤999999999)(o:eX rs)(A:l.length≤2000000)(y:0≤eA∧eA≤2000000)(C:(cd k rs []).length≤1048576)(B:dw r):
 (∃e,e≠0∧wN FF r (bd f) n eA ((cd k rs []).length:Int) [(bd f,cd k rs [])] l=some (e,bd f,n,eA,((cd k rs []).length:Int),[(bd f,cd k rs [])],l))∨
 (wN FF r (bd f) n eA ((cd k rs []).length:Int) [(bd f,cd k rs [])] l=some (0,bd f,n,eA+1,((cd k (rs++[r]) []).length:Int),[(bd f,cd k (rs++[r]) [])],l++[wv (bd f) r])∧eX (rs++[r])∧(cd k (rs++[r]) []).length≤1048576):=by
 have z:=Oj f f2;have j:=XG k rs r;rcases ZmC r (bd f) n eA _ _ l (by omega) (EA f _ f2 C (EK o dw.nil)) A y with ⟨e,u,h1,q⟩|⟨h1,q,h3,p,h5⟩
 ·exact .inl ⟨e,u,h1⟩
 ·rw[xJ,←Y8,←j]at p;rw[qL,YJ,XL,←j]at h1;refine .inr ⟨?_,?_,p⟩
  ·rw[h1];have:((cd k rs []).length:Int)+((dd r).length:Int)=((cd k (rs++[r]) []).length:Int):=by rw[j,Y8];omega
   rw[this];rfl
  ·intro x i;rcases YA.1 i with i|i
   ·exact o x i
   ·simp only[Yu]at i;subst i;exact⟨q,B⟩
def UI(kept:bD)(k f n:Nat)(rs:List aa)(f2:f≤999999999)(add:List aa)(ha:add.length≤100000)(E:∀x∈add,dw x)(A:eX rs)(F:(cd k rs []).length≤1048576):
 dh (yv FF kept add FF 0 (bd f) (n:Int) (rs.length:Int) ((cd k rs []).length:Int) [(bd f,cd k rs [])] []) λ o=>∃m≤add.length,eX (rs++add.take m)∧(cd k (rs++add.take m) []).length≤1048576∧
  (
   o=.inl (3,kept,bd f,(n:Int),((rs++add.take m).length:Int),((cd k (rs++add.take m) []).length:Int),[(bd f,cd k (rs++add.take m) [])],(add.take m).map (wv (bd f)))∨
   m=add.length∧o=.inr (bd f,(n:Int),((rs++add.take m).length:Int),((cd k (rs++add.take m) []).length:Int),[(bd f,cd k (rs++add.take m) [])],(add.take m).map (wv (bd f)))):=by
 have:=dM (λ q (i:Nat)=>yv FF kept add q (i:Int) (bd f) (n:Int) ((rs++add.take i).length:Int) ((cd k (rs++add.take i) []).length:Int) [(bd f,cd k (rs++add.take i) [])] ((add.take i).map (wv (bd f)))) (λ i=>i≤add.length∧eX (rs++add.take i)∧(cd k (rs++add.take i) []).length≤1048576) (λ i=>add.length-i)
  (λ o=>∃m≤add.length,eX (rs++add.take m)∧(cd k (rs++add.take m) []).length≤1048576∧(o=.inl (3,kept,bd f,(n:Int),((rs++add.take m).length:Int),((cd k (rs++add.take m) []).length:Int),[(bd f,cd k (rs++add.take m) [])],(add.take m).map (wv (bd f)))∨m=add.length∧o=.inr (bd f,(n:Int),((rs++add.take m).length:Int),((cd k (rs++add.take m) []).length:Int),[(bd f,cd k (rs++add.take m) [])],(add.take m).map (wv (bd f))))) (by
   rintro q i ⟨h1,u,p⟩ kk;simp only[yv];refine cq (λ a=>?_) λ a=>.ret ⟨i,h1,u,p,.inr ⟨by omega,rfl⟩⟩
   refine bV (by omega) (cM (by simp;omega) λ x y z=>?_)
   rw[Yf]at y;have j:add.take (i+1)=add.take i++[x]:=by rw[W8,y];rfl
   have B:=B9 k (rs++add.take i) [];rcases S4 k f (n:Int) (rs++add.take i) x ((rs++add.take i).length:Int) ((add.take i).map (wv (bd f))) f2 u (by simp;omega) (by omega) p (E x z)with ⟨e,C,g⟩|⟨g,g2,g3⟩
   ·refine bJ g ?_;simp only;rw[show(e != 0)=true by simpa using C,Y4]
    exact .ret ⟨i,h1,u,p,.inl rfl⟩
   ·refine bJ g ?_;simp only[show((0:Int) != 0)=false from rfl,Y7]
    have:=kk (i+1) ⟨by omega,by rw[j,←Yo];exact g2,by rw[j,←Yo];exact g3⟩ (by omega)
    rw[w1 (by omega)]
    rw[j,←Yo]at this;rw[show(((rs++add.take i).length:Nat):Int)+1=(((rs++add.take i++[x]).length:Nat):Int) by simp;omega]
    rw[Yj]at this;exact this) FF 0 ⟨YL _,by simpa using A,by simpa using F⟩ (by simp only[FF];omega)
 simpa using this
structure SU(id:Int)(ag:aa)(kept:bD)(rs:List Rec)(f n:Nat)(X:aa):Prop where
 ud:UD f (rs.map Rec.b) X
 fn:f≤n
 n9:n≤999999999
 ok:∀x∈rs,x.ok
 fo:fold (r0 id ag) rs=kept
 kr:jF kept=kept
structure SD(id:Int)(ag:aa)(c:Int)(fs:Fs)(l:List bP)(rs:List Rec):Prop where
 dr:DR c fs l (rs.map Rec.b)
 ok:∀x∈rs,x.ok
def Oc{id:Int}{ag:aa}{kept r:bD}{rs:List Rec}{f n:Nat}{X:aa}(h:SU id ag kept rs f n X)(hk:TC kept.Trail)(sQ:kept.Trail.Entries.length≤4096)(J:Small r)(hc:∀x∈r.bg,x<9223372036854775808):
 dh (Ah FF r kept (bd f) (n:Int) (rs.length:Int) (X.length:Int) [(bd f,X)] []) λ y=>∃add:List Rec,(∀x∈add,x.ok)∧∃k,k≤(rs.map Rec.b).length∧X=cd k (rs.map Rec.b) []∧eX (rs.map Rec.b++add.map Rec.b)∧(cd k (rs.map Rec.b++add.map Rec.b) []).length≤1048576∧
  y.2.2=(bd f,(n:Int),((rs++add).length:Int),((cd k (rs.map Rec.b++add.map Rec.b) []).length:Int),[(bd f,cd k (rs.map Rec.b++add.map Rec.b) [])],(add.map Rec.b).map (wv (bd f)))∧
  (
   (y.1≠0∧y.2.1=kept∧(add=[]∨RK r∧r.Id=kept.Id∧r.bg=kept.bg∧∃s m,Cp (dN kept r).Entries r.Trail.Entries s∧add=(iL kept r s).take m))∨
   (y.1=0∧y.2.1=jF r∧RK r∧r.Id=kept.Id∧r.bg=kept.bg∧∃s,Cp (dN kept r).Entries r.Trail.Entries s∧add=iL kept r s)):=by
 obtain⟨k,hX,p⟩:=h.ud.k;have E:=h.ud.xl;have Y:=h.ud.rc;subst hX;unfold Ah;refine bh (Q:=λ b=>b=false→RK r∧r.Id=kept.Id∧r.bg=kept.bg) ?_ λ b _ hb=>bu (λ _=>.ret ⟨[],(λ x q=>by cases q),k,p,rfl,by simpa using Y,by simpa using E,by simp,.inl ⟨show(4:Int)≠0 by decide,rfl,.inl rfl⟩⟩) λ e=>?_
 ·refine bh (Ff r J) λ b e1 h1=>bu (λ _=>.ret (by simp)) λ U=>?_
  have U:b=true:=by simpa using U
  subst U;exact bu (λ _=>.ret (by simp)) λ e=>bh (Zr _ _ J.c) λ b2 _ he=>.ret λ q=>⟨⟨e1,h1 rfl,hc⟩,by simpa using e,he (by simpa using q)⟩
 obtain⟨i,u,A⟩:=hb e;obtain⟨s,B,C,j⟩:=Ni kept r hk i.nk;have M:((iL kept r s).map Rec.b).length≤100000:=by
  have:=(ZpZ kept r (by omega) i.kk).BO C
  have:=this.1;omega
 refine bJ C ?_;have Z:=UI kept k f n (rs.map Rec.b) h.ud.f2 ((iL kept r s).map Rec.b) M (λ x O=>by
  obtain⟨z,hz,rfl⟩:=W0.1 O;exact z.qD (j z hz)) Y E
 rw[Ya]at Z;refine bh Z λ o _ ho=>?_;obtain⟨m,hm,F,H,T⟩:=ho
 rw[←Ub]at F H T;have hl:(((rs.map Rec.b++((iL kept r s).take m).map Rec.b).length:Nat):Int)=((rs++(iL kept r s).take m).length:Int):=by simp
 rw[hl]at T;rcases T with rfl|⟨V,rfl⟩
 ·exact .ret ⟨(iL kept r s).take m,λ x O=>j x (YZ O),k,p,rfl,F,H,rfl,.inl ⟨show(3:Int)≠0 by decide,rfl,.inr ⟨i,u,A,s,m,B,rfl⟩⟩⟩
 ·have R:(iL kept r s).take m=iL kept r s:=Yk (by rw[Ya]at V;omega)
  rw[R]at F H⊢;simp only[YG];exact bJ (Fh r J) (.ret ⟨iL kept r s,j,k,p,rfl,F,H,rfl,.inr ⟨rfl,rfl,i,u,A,s,B,rfl⟩⟩)
def Jl{k r:bD}{s:Nat}(B:jF k=k)(j:Cp (dN k r).Entries r.Trail.Entries s):fold k (iL k r s)=tv k r.Term r.bn r.Trail r.bj:=by
 have q:k=tv k k.Term k.bn k.Trail k.bj:=by
  rw[←B];rfl
 have f1:fold k (gC k r)=tv k r.Term r.bn k.Trail k.bj:=by
  unfold gC fold;split
  ·rename_i e;rw[Vm,←e.1,←e.2];exact q
  ·rfl
 have f2:fold (tv k r.Term r.bn k.Trail k.bj) (gh k r)=tv k r.Term r.bn (dN k r) r.bj:=by
  unfold gh dN fold;by_cases p:hQ k r
  ·rw[if_pos p,if_pos p];rfl
  ·rw[if_neg p,if_neg p,Vm,←(VG.1 p).2.2]
 have u:(dN k r).au=r.Trail.au:=by
  unfold dN;split
  ·unfold j9 dZ;split<;>rfl
  ·rename_i h;exact(VG.1 h).2.1
 have o:=xT (k:=k) (r:=r);have i:∀l,l=r.Trail.Entries→ca.mk (dN k r).an (dN k r).au l=r.Trail:=λ l e=>by rw[u,o,e]
 unfold iL;rw[sj,f1,sj,f2,sj];by_cases z:s<r.Trail.Entries.length
 ·rw[I' _ k r.Term r.bn (dN k r) r.bj s j.l1 (λ e=>by have:=YU List.length e;simp at this;omega)]
  have:iI k r s=[]:=by unfold iI;rw[if_neg (by omega)]
  rw[this,i _ (by rw[j.eq,V0])];rfl
 ·have x:s=r.Trail.Entries.length:=by have:=j.l2;omega
  have e0:ed ((dN k r).an+s) (r.Trail.Entries.drop s)=[]:=by rw[x,Vq];rfl
  rw[e0];show fold (tv k r.Term r.bn (dN k r) r.bj) (iI k r s)=_;have y:(dN k r).Entries.take s=r.Trail.Entries:=by rw[j.eq,x,W7]
  by_cases A:s=r.Trail.Entries.length∧s<(dN k r).Entries.length
  ·unfold iI fold;rw[if_pos A];simp only[Vw,Vm,ap,nO,jF,tv];rw[show((dN k r).an+(s:Int)-(dN k r).an).toNat=s by omega,i _ y,o]
  ·unfold iI;rw[if_neg A];have:(dN k r).Entries=r.Trail.Entries:=by
    rw[←y,Yk (by have:=j.l1;omega)]
   have e:dN k r=r.Trail:=by
    have:=i _ this;cases hm:dN k r;rw[hm]at this;exact this
   rw[e];rfl
def QG:TC (ca.mk 0 0 []):=⟨by kernel_rfl,⟨by decide,by decide,by decide,by decide,by decide,by decide,λ e i=>by cases i⟩⟩
def UG{id:Int}{ag:aa}{k:bD}(h1:k.Id=id)(i:k.bg=ag)(j:jF k=k):tv (r0 id ag) k.Term k.bn k.Trail k.bj=k:=by
 rw[←j];unfold tv jF r0;simp only;rw[h1,i]
def Mm{id:Int}{ag:aa}{kept:bD}{rs:List Rec}{f n:Nat}{X:aa}(h:SU id ag kept rs f n X)(hn:NK kept)(hid:kept.Id=id)(Sb:kept.bg=ag)(sQ:kept.Trail.Entries.length≤4096):
 dh (zU FF kept (bd f) (n:Int) (rs.length:Int) (X.length:Int) [(bd f,X)] []) λ y=>
  (∃oH X',y=(0,bd (n+1),((n+1:Nat):Int),(oH.length:Int),(X'.length:Int),[(bd (n+1),X')],[])∧SU id ag kept oH (n+1) (n+1) X')∨
  y.1≠0∧dh (qk FF 0 0 y.2.2.2.2.1 y.2.2.2.2.2.1 y.2.2.2.2.2.2) λ z=>SD id ag z.1 z.2 [] rs:=by
 obtain⟨s,T,J,A⟩:=Ni (bD.mk 0 [] 0 0 0 0 (ca.mk 0 0 []) [] 0 0 0 [] [] []) kept QG hn;have C:Cp (dN (r0 id ag) kept).Entries kept.Trail.Entries s:=T;obtain⟨u,o⟩:∃u,u=iL (r0 id ag) kept s:=⟨_,rfl⟩;have J:tt FF (bD.mk 0 [] 0 0 0 0 (ca.mk 0 0 []) [] 0 0 0 [] [] []) kept=some (u.map Rec.b):=by rw[o];exact J
 have A:∀x∈u,x.ok:=by rw[o];exact A
 have lT:=Jl (k:=r0 id ag) (r:=kept) rfl C;rw[UG hid Sb h.kr,←o]at lT;have hx:=h.ud.xl;have i:=h.ud.f2;have B:=h.ud.f1;have Bq:=h.fn;have Rt:=h.n9;have hD:=EA f X i hx (by obtain⟨k,e, -⟩:=h.ud.k;rw[e];exact EK h.ud.rc dw.nil)
 have hW:=WI.nil [(bd f,X)];unfold zU;refine bJ J ?_;have hlen:(u.map Rec.b).length≤10010:=by
  have H:∀(l:List bx) (b:Int),(ed b l).length=l.length:=λ l=>by
   induction l with
   |nil=>intro b;rfl
   |cons a l ih=>intro b;simp only[ed,Yh,ih]
  have h1:(gC (r0 id ag) kept).length≤1:=by unfold gC;split<;>simp
  have h2:(gh (r0 id ag) kept).length≤1:=by unfold gh;split<;>simp
  have h3:(iI (r0 id ag) kept s).length≤1:=by unfold iI;split<;>simp
  rw[Ya,o];unfold iL;simp only[Y8,H,Yw];omega
 clear T C o;have M:∀q:Nat,n<q→q≤999999999→az (bd q) [(bd f,X)]=none:=λ q h1 h2=>by
  cases e:az (bd q) [(bd f,X)]with
  |none=>rfl
  |some Y=>have:=(ti i h2 e).1;omega
 have Re:SD id ag (X.length:Int) [(bd f,X)] [] rs:=⟨⟨hD,hW,λ e E=>by
  simp only[Yu]at E;subst E;exact⟨f,B,i,rfl⟩,.inr ⟨f,X,B,i,qL _ _,by obtain⟨k,e,e2⟩:=h.ud.k;exact⟨k,[],e,e2,h.ud.rc,s9⟩,λ z Y b1 O b3=>by have:=(ti i O b3).1;omega,λ w F=>by cases F⟩⟩,h.ok⟩
 have Z:dh (qk FF 0 0 (X.length:Int) [(bd f,X)] []) λ z=>SD id ag z.1 z.2 [] rs:=by
  refine(NY 0 0 _ _ _ hD hW).mono λ z U=>?_;obtain⟨z1,z2,z3,z4⟩:=U
  have hg:az (bd f) z.2=some X:=by rw[z3 _ (λ w F=>by cases F)];exact qL _ _
  have ho:=M7 z1.nk (λ e E=>by
   have:e.1∈z.2.map Prod.fst:=WY E;rw[z2]at this;simpa using this) hg
  have R:=z1.eK;rw[ho,xJ]at R;obtain⟨za,zb⟩:=z;simp only at ho R⊢;rw[ho,R];exact Re
 rcases OQ (u.map Rec.b) (bd f) n (rs.length:Int) (X.length:Int) [(bd f,X)] [] (by omega) (λ x hx=>by
  obtain⟨z,U,rfl⟩:=W0.1 hx;exact z.qD (A z U)) Rt hD (by simp) M (.inr ⟨X,qL _ _⟩)with ⟨g, -⟩|⟨c2,c',dO,l',g, -,gd,gq,gf⟩|⟨k1,k2,c',l',g,k3,k4,k5,kw⟩
 ·exact bJ g (.ret (.inr ⟨show(1:Int)≠0 by decide,Z⟩))
 ·refine bJ g (.ret (.inr ⟨show(3:Int)≠0 by decide,?_⟩))
  obtain⟨d1,d2⟩:=gd hW;simp only;refine(NY 0 0 c' dO l' d1 d2).mono λ z U=>?_;obtain⟨z1,z2,z3,z4⟩:=U
  have V:bd f≠bd (n+1):=λ e=>by
   unfold bd at e;have:=EV (a:=f) (b:=n+1) (by omega) (by omega) (Vb e)
   omega
  have hg:az (bd f) z.2=some X:=by
   rw[z3 _ (λ w F=>by
    rcases gq w F with q|q
    ·cases q
    ·rw[q];exact λ e=>V e.symm)]
   rcases gf with rfl|⟨-, -,j, -,rfl⟩
   ·exact qL _ _
   ·exact Cq (qL _ _)
  have p:∀e∈z.2,e.1=bd f∨n+1≤999999999∧e.1=bd (n+1):=λ e E=>by
   have Q:e.1∈z.2.map Prod.fst:=WY E;rw[z2]at Q;rcases gf with rfl|⟨-,n9,j, -,rfl⟩
   ·left;simpa using Q
   ·simp only[Yj,Yy,VH,YA,Yu]at Q;exact Q.imp (λ x=>x) λ q=>⟨n9,q⟩
  refine⟨⟨z1,WI.nil _,λ e E=>?_,.inr ⟨f,X,B,i,hg,by obtain⟨k,e,e2⟩:=h.ud.k;exact⟨k,[],e,e2,h.ud.rc,s9⟩,λ q Y b1 O b3=>?_,λ w F=>by cases F⟩⟩,h.ok⟩
  ·rcases p e E with q|⟨q1,q⟩
   ·exact⟨f,B,i,q⟩
   ·exact⟨n+1,by omega,q1,q⟩
  ·rcases p _ (qf b3)with e|⟨e1,e⟩
   ·have:=xM O i e;omega
   ·have:=xM O e1 e;subst this;obtain⟨Y0,y1,y2⟩:=z4 _ _ b3;rcases gf with rfl|⟨hR, -,j,hj,rfl⟩
    ·have:=(ti i O y1).1;omega
    ·rw[xK (M (n+1) (by omega) e1)]at y1
     have:=(ti e1 O y1).2;subst this;have Q:=vZ (qf (show az (bd (n+1)) ([(bd f,X)]++[(bd (n+1),cd (u.map Rec.b).length ((u.map Rec.b).take j) [])])=some _ by rw[xK (M (n+1) (by omega) e1)];exact qL _ _))
     simp only at Q;have:=d1.le;exact TN (by rw[Y9];omega) (by omega) (λ x hx=>hR x (YZ hx)) (by omega) y2
 ·have hb:base (bd f) [(bd f,X)]=[]:=by rw[base,if_neg (EO f),NN]
  rw[hb,YQ]at g k3 kw;have hX:(cd (u.map Rec.b).length (u.map Rec.b) []).length≤1048576:=by
   have:=k3.le;rwa [xJ]at this
  have hl:l'=[]:=WR (by simpa using k5)
  have R:=k3.eK;rw[xJ]at R;exact bJ g (.ret (.inl ⟨u,_,by rw[hl,R,Ya],⟨⟨by omega,k2,⟨_,rfl,Yg _⟩,k1,hX⟩,Yg _,k2,A,lT,h.kr⟩⟩))
def Td(r:bD)(x:Rec):(ap r x).bg=r.bg∧(ap r x).Id=r.Id∧jF (ap r x)=ap r x:=by cases x<;>exact⟨rfl,rfl,rfl⟩
def JM:∀(rs:List Rec) (r:bD),jF r=r→(fold r rs).bg=r.bg∧(fold r rs).Id=r.Id∧jF (fold r rs)=fold r rs
 | [],r,h=>⟨rfl,rfl,h⟩
 |x::rs,r,h=>by
  obtain⟨a,b,c⟩:=Td r x;obtain⟨d,e,f⟩:=JM rs (ap r x) c;exact⟨d.trans a,e.trans b,f⟩
def Xa(i0:Int)(ag:aa)(rs:List Rec)(q:∀x∈rs,x.ok)(hR:eX (rs.map Rec.b))(hl:rs.length≤1048576)(B:RK (r0 i0 ag))(c:Int)(fs:Fs)(file:aj)(n eA:Int)(l:List bP):
 dh (sC FF (rs.map Rec.b,0,c,fs,file,n,eA,l) FF ((rs.map Rec.b).length:Int) 0 0 (r0 i0 ag).Id (r0 i0 ag).bg (r0 i0 ag).Term (r0 i0 ag).bn (r0 i0 ag).bE (r0 i0 ag).bo (r0 i0 ag).Trail.an (r0 i0 ag).Trail.au (r0 i0 ag).Trail.Entries (r0 i0 ag).bj (r0 i0 ag).ah (r0 i0 ag).Left (r0 i0 ag).bK (r0 i0 ag).bO (r0 i0 ag).Next (r0 i0 ag).Match) λ o=>
  (∀y,o=.inl y→∃r,y=.inl (r,21,c,fs,l))∧∀y:Gm,o=.inr y→RK (lz y)∧lz y=fold (r0 i0 ag) rs:=by
 have:=dM (λ m (s:Nat×bD)=>sC FF (rs.map Rec.b,0,c,fs,file,n,eA,l) m ((rs.map Rec.b).length:Int) (s.1:Int) 0 s.2.Id s.2.bg s.2.Term s.2.bn s.2.bE s.2.bo s.2.Trail.an s.2.Trail.au s.2.Trail.Entries s.2.bj s.2.ah s.2.Left s.2.bK s.2.bO s.2.Next s.2.Match)
  (λ s=>s.1≤rs.length∧RK s.2∧s.2=fold (r0 i0 ag) (rs.take s.1)) (λ s=>rs.length-s.1) (λ o=>(∀y,o=.inl y→∃r,y=.inl (r,21,c,fs,l))∧∀y:Gm,o=.inr y→RK (lz y)∧lz y=fold (r0 i0 ag) rs) (by
   rintro m ⟨i,r⟩ ⟨H,p,j⟩ k;simp only at H p j k⊢;simp only[sC];rw[Ya];refine cq (λ a=>?_) λ a=>.ret ⟨(λ y e=>by cases e),λ y e=>by
    cases e;refine⟨p,?_⟩;rw[Yk (by omega)]at j
    exact j⟩
   refine bV (by omega) (cM (by simp;omega) λ b A J=>?_)
   rw[Yf,YD,Yq]at A;obtain⟨x,z,rfl⟩:=A;have u:=YO z;refine bh (ZH r p x (q x u)) λ y _ F=>bu (λ _=>.ret ⟨(λ y e=>by cases e;exact⟨_,rfl⟩),λ y e=>by cases e⟩) λ e=>?_
   obtain⟨E,C⟩:=F (by simpa using e)
   rw[w1 (by omega)]
   have:=k (i+1,y.1) ⟨by simp only;omega,C,by
    simp only;rw[W8,z,VB,sj,←j,E];rfl⟩ (by simp only;omega)
   rw[Ya]at this;exact this) FF (0,r0 i0 ag) ⟨YL _,B,rfl⟩ (by simp only[FF];omega)
 exact this
def TO{ag:aa}{i0 c:Int}{fs:Fs}{l:List bP}{rs:List Rec}(j:CF ag)(p:i0∈ag)(h:SD i0 ag c fs l rs):
 dh (th FF i0 ag c fs l) λ o=>(∀y:OpE,o=.inl y→(y.2.1=3∨y.2.1=21)∧SD i0 ag y.2.2.1 y.2.2.2.1 y.2.2.2.2 rs)∧
  ∀y,o=.inr y→∃f n X,y=.inr (fold (r0 i0 ag) rs,0,(X.length:Int),[(bd f,X)],fold (r0 i0 ag) rs,[],bd f,((n:Nat):Int),(rs.length:Int))∧SU i0 ag (fold (r0 i0 ag) rs) rs f n X∧RK (fold (r0 i0 ag) rs):=by
 unfold th;have H:RK (r0 i0 ag):=by
  obtain⟨y,e,h⟩:=XW i0 ag (by have:=j.ok.n7;omega) j.lt
  rw[MI j p]at e;cases e;exact(h rfl).2
 refine bJ (MI j p) ?_;simp only[show((0:Int) != 0)=false from rfl,Y7]
 rcases Xb c fs l _ h.dr with ⟨c',dO,l',g,i⟩|⟨f,n,X,g,i,Q,R⟩
 ·exact bJ g (.ret ⟨(λ z e=>by cases e;exact⟨.inl rfl,i,h.ok⟩),λ y e=>by cases e⟩)
 ·have C:=i.xl;have M:rs.length≤X.length:=by
   obtain⟨k,e, -⟩:=i.k;have:=B9 k (rs.map Rec.b) [];rw[←e,Ya]at this;exact this
  have A:SD i0 ag (X.length:Int) [(bd f,X)] [] rs:=⟨⟨EA f X i.f2 C (by obtain⟨k,e, -⟩:=i.k;rw[e];exact EK i.rc dw.nil),WI.nil _,λ e F=>by
   simp only[Yu]at F;subst F;exact⟨f,i.f1,i.f2,rfl⟩,.inr ⟨f,X,i.f1,i.f2,qL _ _,by obtain⟨k,e,U⟩:=i.k;exact⟨k,[],e,U,i.rc,s9⟩,λ z Y b1 O V=>by have:=(ti i.f2 O V).1;omega,λ w J=>by cases J⟩⟩,h.ok⟩
  refine bJ g ?_;simp only[YG,Ya,show((0:Int) != 0)=false from rfl,Y7]
  have q:=Xa i0 ag rs h.ok i.rc (by omega) H (X.length:Int) [(bd f,X)] (bd f) (n:Int) (rs.length:Int) []
  rw[Ya]at q;refine jm (Pr:=λ y=>∃r,y=.inl (r,21,(X.length:Int),[(bd f,X)],[])) (Ps:=λ y:Gm=>RK (lz y)∧lz y=fold (r0 i0 ag) rs) q (λ y x=>?_) λ y x=>?_
  ·obtain⟨r,rfl⟩:=x;exact .ret ⟨(λ z e=>by cases e;exact⟨.inr rfl,A⟩),λ y e=>by cases e⟩
  ·obtain⟨E,B⟩:=x;have u:=JM rs (r0 i0 ag) rfl;refine bJ (show nN FF (lz y)=some (jF (lz y))from Fh _ E.ok.small) (.ret ⟨(λ z e=>by cases e),λ z e=>?_⟩)
   cases e;refine⟨f,n,X,?_,⟨i,Q,R,h.ok,rfl,u.2.2⟩,by rw[←B];exact E⟩
   have key:∀a b:bD,a=fold (r0 i0 ag) rs→b=fold (r0 i0 ag) rs→(Sum.inr (a,(0:Int),(X.length:Int),[(bd f,X)],b,([]:List bP),bd f,(n:Int),(rs.length:Int)):(bD×Int×Int×Fs×bD×List bP)⊕OpB)=.inr (fold (r0 i0 ag) rs,0,(X.length:Int),[(bd f,X)],fold (r0 i0 ag) rs,[],bd f,(n:Int),(rs.length:Int)):=λ a b Z T=>by rw[Z,T]
   exact key (jF (lz y)) (lz y) (by rw[B];exact u.2.2) B
end Go.T
