import Derived.Test.YtjpmdkgonlmddaaGreatDoorAbI
import Derived.Shelf.Strings.FieldsFuncAny
import Derived.Shelf.Strings.Split
import Derived.Shelf.Spec.TrailingZeros
import Derived.Shelf.Strings.SlTrimAscii
import Derived.Lib.Join
import Derived.Lib.ItoaNum
import Derived.Lib.AtoiAll
import Derived.Lib.ConvBytes
import Derived.Lib.LaidTab
set_option linter.unusedVariables false
namespace Go.Ab
open Go Go.RowKit Go.Proofs
section
variable {G:eo}{P:Program}{S:Nat→Prop}{f g:Nat}{w:World}
def bs(l:aj):ByteArray:=⟨l.toArray⟩
structure ef(w0 w:World):Prop where
 os:w.os=w0.os
 output:w.output=w0.output
 size:w0.heap.size≤w.heap.size
 old:∀b<w0.heap.size,w.heap[b]? =w0.heap[b]?
theorem ef.refl(w:World):ef w w:=⟨rfl,rfl,Yg _,λ _ _=>rfl⟩
theorem ef.below{w':World}(h:Below w.heap.size w w'):ef w w':=⟨h.os,h.output,h.size,h.block⟩
theorem ef.fr{w0:World}(h:ef w0 w)(Ow:Nat→Prop):Fr Ow w0 w:=⟨h.os,h.output,h.size,λ b i _=>h.old b i⟩
theorem ef.bytes(w:World)(e:TypeId)(s:ByteArray):ef w (Lib.bytesWorld w e s):=
 ⟨rfl,rfl,by simp[Lib.bytesWorld,World.freeze,World.alloc,World.drew, -World.alloc_eq, -World.drew_eq],λ j hj=>Lib.bytesWorld_at_old w e s j hj⟩
theorem L0{args:List AV}{rv:AV}(hn:fe P f=true)
 (h:∀(S:Nat→Prop) (ι:bp) (w:World) (vs:Array Value),(∀b,S b→b<w.heap.size)→pE G S w→bA S w ι args vs.toList→
  Calls P f vs w λ e w'=>∃v,e=.returned v∧ef w w'∧∀S w,cE S w rv v):FC P G f [] args rv []:=by
 refine⟨hn,λ o x j=>by simp[lk]at j,λ S0 ι0 w0 vs h0 z y hι u=>?_⟩
 refine(h S0 ι0 w0 vs h0 z u).mono ?_;rintro e w' ⟨v,rfl,q,i⟩;exact⟨v,S0,ι0,rfl,q.fr _,λ b p=>⟨.inl p,Wx (h0 b p) q.size⟩,λ b p=>p,bp.le_refl _,λ o ho=>hι o (YL _),.cu _ _ (i _ _),
  ⟨λ o x j=>by simp[lk]at j,λ o x j=>by simp_all,λ o o' x x' j=>by simp_all⟩⟩
theorem po{ι:bp}{a:AV}{vs:Array Value}(h:bA S w ι [a] vs.toList):∃v,vs=#[v]∧cz S w ι a v:=by
 obtain⟨l⟩:=vs
 match l,h with
 | [],h=>have:=h.1;grind
 | [v],h=>exact⟨v,rfl,h.2 0 a v rfl rfl⟩
 |_::_::_,h=>have:=h.1;grind
theorem pE.cell(h:pE G S w){row:List AV}(u:G g=some row){j:Nat}{k:IntKind}{n:Int}(hj:row[j]? =some (.int k n)):w.cell? ⟨g,j,none⟩=some (.int k n):=by
 have:=(h g row u).1;generalize i:Value.pointer (some ⟨g,0,none⟩)=v at this;cases this with
 |rp row off bB base bc hS hl dC hr=>
  injection i with i;injection i with i;injection i with h1 h2 h3;subst h1;have z:base=0:=by omega
  subst z;have o:j<bc.length:=by rw[←hl];exact(Ys.1 hj).1
  have p:bc[j]? =some bc[j]:=Y3 o;have q:=hr j _ _ hj p;have y:=(dC j _ p).1;generalize bc[j]=x at q y;cases q;simp_all
theorem UN(l:aj):cE S w (.str l) (.string ⟨l.toArray⟩):=by
 have:=cE.str (S:=S) (w:=w) ⟨l.toArray⟩;omega
end
theorem S7{P:Program}{G:eo}{f:Nat}{cQ:Os}{args:List AV}{v:AV}{os cr:Os}(o:Nat){rs:List (List AV)}(h:FC P G f cQ args v os)(Z:cQ.length≤W)
 (ho:lk os o=some (.rows false rs)) (y:(rs.all λ r=>r.all iy)=true) (E:(cr.all λ e=>decide (e.1<W))=true)
 (U:jD cQ.length v cr v (ia os [(o,some (.rows true rs))])):FC P G f cQ args v cr:=by
 refine⟨h.1,λ o x hx=>?_,λ S0 ι0 w0 vs h0 hG J hι hL=>?_⟩
 ·have:=YW.1 E _ (uJ hx);simp_all
 refine(h.2.2 S0 ι0 w0 vs h0 hG J hι hL).mono ?_;rintro e w ⟨u,S,ι,rfl,X,T,q3,q4,V,q6,F⟩;obtain⟨os2,σ,H,O⟩:=U.h;have M:∀j L,ι0 j=some L→j<cQ.length:=λ j L e=>by
  grind
 let C':Cx:=⟨λ _=>none,w0,⟨0,1,false⟩,dR w0 ι0 cQ,S0,cQ.length,ι0,M,λ _=>undef,[],[]⟩;have B:Inv C' S ι (λ x=>W≤x) (dn [(0,v)] os) {tmps:=#[u],defers:=[]} w:=by
  refine⟨λ t=>?_,rfl,⟨rfl,λ t ht=>absurd ht (We t),λ q hq=>(by cases hq)⟩,F.ob,F.own,F.inj,λ b p=>(T b p).2,λ b p=>(T b p).1,V,X,λ b p=>.inl p,λ g row hg=>(by cases hg),q3,λ j L e=>q4 j _ e⟩
  cases t with
  |zero=>exact q6
  |succ t=>exact .cu _ _ (.undef _)
 have z:(dn [(0,v)] os).os o=some (.rows false rs):=ho;have C:=B.ob o _ z;have A:=B.rh (x':=.rows true rs) z rfl rfl rfl (by
  rcases C with h|⟨l,bc,h1,h2,h3,Y,h5⟩
  ·exact .inl h
  ·refine .inr ⟨l,bc,h1,h2,h3,Y,λ j r R=>?_⟩;have Q:=h5 j r R
   simp only[YN,Ym]at Q;simp only[Yz];exact Q.free (YW.1 y _ (YO R)))
 have e:({dn [(0,v)] os with os:=bw (dn [(0,v)] os).os [(o,some (.rows true rs))]}:FS)=dn [(0,v)] (ia os [(o,some (.rows true rs))]):=by
  unfold dn;rw[B8]
 rw[e]at A;obtain⟨ι2,i⟩:=(Inv.rZ H A).vO O;exact⟨u,S,ι2,rfl,i.fr,λ b p=>⟨i.sn b p,i.sb b p⟩,i.s0,λ j L e=>i.hj j L e,i.un,i.tm 0,⟨i.ob,i.own,i.inj⟩⟩
theorem TV{P:Program}{G:eo}{f:Nat}{args:List AV}{rv:AV}{os:Os}(k z:Nat)(h:FC P G f [(0,.rows true [])] args rv os)(A:args[k]? =some (.bf 0 z)):FC P G f [] (args.set k .dK) rv os:=by
 refine⟨h.1,h.2.1,λ S0 ι0 w0 vs h0 R Q hι y=>?_⟩;let ι1:bp:=λ o=>if o=0 then some none else ι0 o
 have u:ι0.le ι1:=λ o x e=>by
  simp_all
 have p:dR w0 ι1 [(0,.rows true [])]=dR w0 ι0 []:=by
  funext b;apply propext;constructor
  ·rintro(h|⟨o,x,l,h1,h2,h3,h4⟩)
   ·exact .inl h
   grind
  ·rintro(h|⟨o,x,l,h1,_⟩)
   ·exact .inl h
   simp_all
 have T:=fD A;refine(h.2.2 S0 ι1 w0 vs h0 R ?_ ?_ ⟨by rw[←y.1];simp,λ j x v i E=>?_⟩).mono ?_
 ·rw[p];refine⟨λ o x i=>?_,λ o x i M l e=>?_,λ o o' x x' i H M X l l' e=>?_⟩
  ·by_cases q:o=0
   ·subst q;simp only[lk,Yz,Y5]at i;subst i;exact .inl ⟨by rfl,rfl⟩
   ·simp[lk,q]at i
  all_goals grind
 ·grind
 ·by_cases q:j=k
  ·subst q;rw[A]at i;injection i with i;subst i;have:=y.2 j .dK v (by simp_all) E
   cases this with
   |cu _ _ h=>cases h with|dK a=>exact .fW 0 z a (by rfl)
  ·exact(y.2 j x v (by grind) E).mono (λ _ h=>h) (λ _ _=>rfl) u
 ·rintro e w' ⟨v,S',ι',rfl,B,F,V,O,J,U,C⟩;rw[p]at B F C;exact⟨v,S',ι',rfl,B,F,V,λ o x e=>O o x (u o x e),J,U,C⟩
structure Gv where
 ml:Int
 e0:Value
 e1:Value
 h0:e0=.nilIface∨∃te pe,e0=.iface te pe
 h1:e1=.nilIface∨∃te pe,e1=.iface te pe
def fc(l:aa):aa:=l.mergeSort λ x y=>decide (x≤y)
def gV(l:List aj):List aj:=l.mergeSort λ x y=>decide (x≤y)
def db:aj:=[108,111,103,45]
def kb(s:aj):Int:=
 match Lib.atoiAll (Lib.trimPrefix s db)with
 |.ok n=>if Lib.hasPrefix s db=true∧(Lib.trimPrefix s db).length≤9∧1≤n∧Lib.itoa n=Lib.trimPrefix s db then n else 0
 |_=>0
set_option maxRecDepth 100000
theorem Cn{x:Int}(h1: -9223372036854775808≤x)(h2:x≤9223372036854775807):IntKind.wrap IntKind.i64 x=x:=by
 rw[YF];omega
def ej(d m s:Int)(i:aa):List AV:=.int .u32 d::.int .i32 m::.int .u32 s::i.map (λ n=>.int .u32 n)
def rb(c:Int):Int:=cC BinOp.xor IntKind.u32 (c.fdiv (2^min (Int.toNat 1) IntKind.u32.bits)) (IntKind.u32.wrap (3988292384*cC BinOp.and IntKind.u32 c 1))
def ju:Nat→Int→Int
 |0,c=>c
 |k+1,c=>ju k (rb c)
def kA(i:aa):Nat→aa
 |0=>i
 |k+1=>(kA i k).set k (ju 8 (IntKind.u32.wrap (k:Int)))
theorem E9(i:aa):∀k,(kA i k).length=i.length
 |0=>rfl
 |k+1=>by simp[kA,E9 i k]
theorem Nu(d m s:Int)(i:aa):(ej d m s i).length=i.length+3:=by simp[ej]
theorem Y'(d m s:Int)(i:aa)(k:Nat)(v:Int)(h:k<i.length):setAt (ej d m s i) (3+k) [.int .u32 v]=ej d m s (i.set k v):=by
 have h1:setAt (ej d m s i) (3+k) [.int .u32 v]=(ej d m s i).set (3+k) (.int .u32 v):=by
  unfold setAt;rw[List.set_eq_take_append_cons_drop,if_pos (by rw[Nu];omega)]
  rfl
 rw[h1,Nat.add_comm];simp[ej,Wm]
def iD:aa:=List.replicate 256 0
def kW:aa:=kA iD 256
def c0:Int:=cC BinOp.xor IntKind.u32 (if IntKind.u32.signed=true then -1 else IntKind.u32.max) 0
def pL(c x:Int):Int:=cC .xor .u8 (IntKind.u8.wrap c) x
theorem II(c x:Int):0≤pL c x∧pL c x<256:=by
 unfold pL cC;rw[Vi];omega
theorem Ji{d m s:Int}(ix:Int)(h:ix<256):(ej d m s kW)[0+3+ix.toNat*1]? =some (.int .u32 (kW.getD ix.toNat 0)):=by
 have hl:kW.length=256:=by unfold kW;rw[E9];simp[iD]
 rw[show 0+3+ix.toNat*1=ix.toNat+3 by omega]
 simp only[ej,Va,YD,Wt];simp_all
def dY(c:Int):aa→Int
 | []=>c
 |x::r=>dY (cC .xor .u32 (c.fdiv (2^min (Int.toNat 8) IntKind.u32.bits)) (kW.getD (pL c x).toNat 0)) r
def cN(s:Int):Int:=cC BinOp.xor IntKind.u32 (if IntKind.u32.signed=true then -1 else IntKind.u32.max) s
def oq(s:Int)(b:aa):Int:=cC BinOp.xor IntKind.u32 (if IntKind.u32.signed=true then -1 else IntKind.u32.max) (dY (cN s) b)
def eJ(b:Bool):List AV:=bif b then ej 1 0 0 kW else ej 0 0 0 iD
def kR(b:aa):Int:=cC BinOp.xor IntKind.u32 (if IntKind.u32.signed=true then -1 else IntKind.u32.max) (dY c0 b)
open Go.Sort (Holds putRow grow)
section
variable {G:eo}{P:Program}{w:World}
theorem On{Ow S S':Nat→Prop}{w':World}{ι:bp}{os:Nat→Option AO}(h:kh Ow S w ι os)(C:∀b,S b→b<w.heap.size)(z:ef w w')(H:∀b,S b→S' b)
 (M:∀b,S' b→S b∨w.heap.size≤b):kh Ow S' w' ι os:=by
 have A:∀o x,os o=some x→x.live=true→∀l,ι o=some (some l)→∀b,c6 w' x l b→c6 w x l b:=λ o x j p l e b i=>ft (λ b i=>z.old b (h.own o x j p l e b i).2.2) i;refine⟨λ o x j=>(h.ob o x j).mono H (λ b i=>z.old b (C b i)) (bp.le_refl _) (λ l p B b i=>z.old b (h.own o x j B l p b i).2.2),λ o x j p l e b i=>?_,λ o o' x x' j y p u l l' e F b i E=>?_⟩
 ·obtain⟨h1,h2,J⟩:=h.own o x j p l e b (A o x j p l e b i);refine⟨h1,λ q=>?_,Wx J z.size⟩;grind
 ·exact h.inj o o' x x' j y p u l l' e F b (A o x j p l e b i) (A o' x' y u l' F b E)
theorem XY{f:Nat}{cQ:Os}{args:List AV}{xs:List aj}(hn:fe P f=true)(hl:xs.length≤bI)(A:(cQ.all λ e=>decide (e.1<W))=true)(E:cQ.length≤W)
 (h:∀(Ow S:Nat→Prop) (ι:bp) (w:World) (vs:Array Value),(∀b,S b→b<w.heap.size)→pE G S w→kh Ow S w ι (lk cQ)→bA S w ι args vs.toList→
  Calls P f vs w λ e w'=>ef w w'∧((xs=[]∧∃a,e=.returned (.slice a 0 0))∨∃b o cap,e=.returned (.slice (some ⟨b,o,none⟩) xs.length cap)∧xs.length≤cap∧w.heap.size≤b∧b<w'.heap.size∧
   ∀(i:Nat) s,xs[i]? =some s→w'.cell? ⟨b,o+i,none⟩=some (.string (bs s)))):FC P G f cQ args (.sl (xs.map gy)) cQ:=by
 refine⟨hn,λ o x C=>?_,λ S0 ι0 w0 vs h0 T z hι Q=>?_⟩
 ·have:=YW.1 A _ (uJ C);simp_all
 refine(h _ S0 ι0 w0 vs h0 T z Q).mono ?_;rintro e w' ⟨B,h⟩;rcases h with ⟨rfl,a,rfl⟩|⟨b,o,cap,rfl,M,F,J,R⟩
 ·refine⟨_,S0,ι0,rfl,B.fr _,λ b p=>⟨.inl p,Wx (h0 b p) B.size⟩,λ b p=>p,bp.le_refl _,λ o ho=>hι o (Wh E ho),.cu _ _ ?_,On z h0 B (λ b p=>p) (λ b p=>.inl p)⟩;cases a with
  |none=>exact .gG
  |some a=>exact .sl [] a 0 0 (λ _=>[]) (Yg _) (by simp) (λ h=>absurd rfl h) (λ i r u=>by simp at u) (λ i j v H=>by simp) (λ i j r x v u=>by simp)
 ·refine⟨_,λ k=>S0 k∨k=b,ι0,rfl,B.fr _,λ k p=>?_,λ k p=>.inl p,bp.le_refl _,λ o ho=>hι o (Wh E ho),.cu _ _ ?_,
   On z h0 B (λ b p=>.inl p) (λ k p=>p.elim .inl (λ e=>.inr (e▸F)))⟩
  ·rcases p with p|rfl
   ·grind
   ·exact⟨Or.inr (Or.inl F),J⟩
  ·have e:xs.length=(xs.map gy).length:=by simp
   rw[e];refine .sl (xs.map gy) ⟨b,o,none⟩ cap 1 (λ i=>[.string (bs (xs.getD i []))]) (by omega) (by omega) (λ _=>⟨.inr rfl,rfl⟩) (λ i r u=>?_) (λ i j v H y=>?_) (λ i j r x v u C y=>?_)
   ·rw[YD,Yq]at u;obtain⟨s,_,rfl⟩:=u;simp
   ·have H:i<xs.length:=by simpa using H
    cases j with
    |succ j=>simp at y
    |zero=>
     simp only[Yv,Y5]at y;subst y;have q:=R i xs[i] (by simp)
     have e2:xs.getD i []=xs[i]:=by simp[Wt,H]
     refine⟨?_,rfl⟩;grind
   ·rw[YD,Yq]at u;obtain⟨s,O,rfl⟩:=u;cases j with
    |succ j=>simp at y
    |zero=>
     simp only[Yv,Y5]at y C;subst y;simp only[gy,Yv,Y5]at C;subst C;rw[Wt,O];exact .str (bs s)
theorem Zp6(l:aa):(fc l).length=l.length:=by simp[fc]
theorem XX{f:Nat}(hn:fe P f=true)
 (c:∀(bB off cap:Nat) (zs:aa) (w:World),Holds (Value.int .i64) w bB off zs.toArray→bB<w.heap.size→zs.length<4611686018427387904→
  Calls P f #[.slice (some ⟨bB,off,none⟩) zs.length cap] w λ e w'=>e=.returned (.tuple #[])∧∃n os,w'=grow (putRow (Value.int .i64) (Sort.ahead w n) bB off (zs.mergeSort λ x y=>decide (x≤y)).toArray) os)
 (c0:∀(p:Option Addr) (cap:Nat) (w:World),Calls P f #[.slice p 0 cap] w λ e w'=>e=.returned (.tuple #[])∧w'=w)
 (l:aa) (hl:l.length≤bI):FC P G f [(0,.rows true (List.map (cn .i64) l))] [.bf 0 1] (.cx []) [(0,.rows true (List.map (cn .i64) (fc l)))]:=by
 refine⟨hn,λ o x E=>?_,λ S0 ι0 w0 vs h0 hG Q hι hL=>?_⟩
 ·by_cases e:o=0
  ·subst e;unfold W;omega
  ·simp[lk,e]at E
 obtain⟨v,rfl,H⟩:=po hL;have hW:∀o,W≤o→ι0 o=none:=λ o ho=>hι o (by unfold W at ho;grind)
 have he:∀(a:Option Addr) (cap:Nat),l=[]→v=.slice a 0 cap→Calls P f #[v] w0 λ e w'=>∃v S' ι',e=.returned v∧Fr (dR w0 ι0 [(0,AO.rows true (List.map (cn .i64) l))]) w0 w'∧
  (∀b,S' b→(S0 b∨dR w0 ι0 [(0,AO.rows true (List.map (cn .i64) l))] b)∧b<w'.heap.size)∧(∀b,S0 b→S' b)∧ι0.le ι'∧(∀o,W≤o→ι' o=none)∧
  cz S' w' ι' (.cx []) v∧kh (dR w0 ι0 [(0,AO.rows true (List.map (cn .i64) l))]) S' w' ι' (lk [(0,AO.rows true (List.map (cn .i64) (fc l)))]):=by
  rintro a cap rfl rfl;refine(c0 a cap w0).mono ?_;rintro e w' ⟨rfl,rfl⟩;exact⟨_,S0,ι0,rfl,⟨rfl,rfl,Yg _,λ _ _ _=>rfl⟩,λ b C=>⟨.inl C,h0 b C⟩,λ b C=>C,bp.le_refl _,hW,.cx [] #[] rfl (λ j x v h=>by simp at h),by rw[show fc []=[] by simp[fc]];exact Q⟩
 have pP:=Q.ob 0 _ rfl;rcases pP with ⟨q,V⟩|⟨L,bc,q,M,hm,T,du⟩
 ·have Z:l=[]:=by simpa using V
  rcases kZ H with ⟨l',ab,cap,J,_⟩|⟨J,ab,R⟩
  all_goals simp_all
 rcases kZ H with ⟨l',ab,cap,J,R,g1,g2,g3,gz,ga⟩|⟨J,ab,R⟩
 rotate_left
 ·simp_all
 rw[q]at J;injection J with J;injection J with J;subst J;rw[Ya]at M;by_cases Z:l=[]
 ·simp_all
 have nW:0<l.length:=Vc.2 Z;have iH:cap≠0:=by omega
 obtain rfl:=ga iH;have U:∀(i:Nat) z,l[i]? =some z→bc i=[.int .i64 z]:=by
  intro i z O;have:=du i [.int .i64 z] (by simp_all)
  simp only[Yz]at this;obtain⟨hlen,V⟩:=this
  match hvi:bc i,hlen with
  | [u],_=>
   have:=V 0 _ u rfl (by grind)
   cases this;rfl
 have B:L.bX=1:=by
  obtain⟨z,O⟩:∃z,l[0]? =some z:=⟨_,Y3 nW⟩;have:=T.2.1 0 (by simp_all)
  rw[U 0 z O]at this;exact this.symm
 have fg:L.base+l.length≤L.size:=by
  have:=T.1;rw[Ya,B,Nat.mul_one]at this;exact this
 have A:=Q.own 0 _ rfl rfl L q _ (.inl rfl);have hH:Holds (Value.int .i64) w0 L.bB L.base l.toArray:=by
  intro j hj;have sS:j<l.length:=by simpa using hj
  have h1:=T.2.2 j 0 (.int .i64 l[j]) (by simp_all) (by simp_all)
  rw[B,Nat.mul_one,WC]at h1;refine⟨?_,(hm (L.base+j)).2 (.inl (by omega))⟩
  rw[show l.toArray[j]! =l[j] by simp_all]
  exact h1.1
 rw[R,←M];unfold bI at hl;refine(c L.bB L.base cap l w0 hH A.2.2 (by omega)).mono ?_
 rintro e w' ⟨rfl,n,os,rfl⟩;rw[show(l.mergeSort λ x y=>decide (x≤y))=fc l from rfl]
 have hs:=Zp6 l;have H8:∀b:Nat,(Sort.ahead w0 n).heap[b]? =w0.heap[b]? :=λ b=>rfl;have F:L.bB<(putRow (Value.int .i64) (Sort.ahead w0 n) L.bB L.base (fc l).toArray).heap.size:=by rw[Sort.size_putRow];exact A.2.2
 have Sz:Holds (Value.int .i64) (Sort.ahead w0 n) L.bB L.base l.toArray:=hH;have X:∀b<w0.heap.size,b≠L.bB→(grow (putRow (Value.int .i64) (Sort.ahead w0 n) L.bB L.base (fc l).toArray) os).heap[b]? =w0.heap[b]? :=λ b C iF=>by
  rw[Sort.heap_grow_old _ _ (by simp_all)]
  unfold putRow Sort.mapBlock;grind
 have n0:∀(j:Nat) z,(fc l)[j]? =some z→fC (grow (putRow (Value.int .i64) (Sort.ahead w0 n) L.bB L.base (fc l).toArray) os) L.bB (L.base+j)=some (.int .i64 z):=λ j z O=>by
  have hj:=fD O;show World.cell? _ _=_;rw[Sort.cell?_grow _ _ _ F,Sort.cell?_putRow _ _ _ _ l.toArray _ Sz (by simp[hs]) j (by omega)]
  simp_all
 have Y:∀j:Nat,¬(L.base≤j∧j<L.base+l.length)→fC (grow (putRow (Value.int .i64) (Sort.ahead w0 n) L.bB L.base (fc l).toArray) os) L.bB j=fC w0 L.bB j:=λ j hj=>by
  show World.cell? _ _=_;rw[Sort.cell?_grow _ _ _ F,Sort.cell?_putRow_other _ _ _ _ _ _ (by grind)]
  rfl
 refine⟨_,S0,ι0,rfl,⟨rfl,rfl,by simp,λ b C hn=>X b C (λ e=>hn (e▸A.1))⟩,λ b C=>⟨.inl C,by grind⟩,λ b C=>C,bp.le_refl _,hW,
  .cx [] #[] rfl (λ j x v h=>by simp at h),⟨λ o x E=>?_,λ o x E jy l' e b C=>?_,λ o o' x x' E mL _ _ l1 l2 e1 e2 b _ _=>?_⟩⟩
 ·by_cases e:o=0
  ·subst e;simp only[lk,Yz,Y5]at E;subst E;refine .inr ⟨L,λ i=>[.int .i64 ((fc l).getD i 0)],q,by simp_all,λ j=>⟨λ hj=>?_,λ hj=>?_⟩,⟨by simp_all,λ i hi=>B.symm,λ i j v hi H=>?_⟩,λ i r V=>?_⟩
   ·by_cases h9:L.base≤j∧j<L.base+l.length
    ·obtain⟨z,O⟩:∃z,(fc l)[j-L.base]? =some z:=⟨_,Y3 (by omega)⟩
     grind
    ·rw[Y j h9];exact(hm j).1 hj
   ·rw[Sort.frozen?_grow _ _ _ F,Sort.frozen?_putRow];exact(hm j).2 hj
   ·rw[Ya,hs]at hi;cases j with
    |succ j=>simp at H
    |zero=>
     simp only[Yv,Y5]at H;subst H;rw[B,Nat.mul_one,WC];have O:=Y3 (l:=fc l) (i:=i) (by omega)
     refine⟨?_,rfl⟩;grind
   ·rw[YD,Yq]at V;obtain⟨z,O,rfl⟩:=V;simp only[Yz];refine⟨rfl,λ j x v E H=>?_⟩;cases j with
    |succ j=>simp at H
    |zero=>
     simp only[Yv,Y5]at H;simp only[cn,Yv,Y5]at E;subst H;subst E;rw[Wt,O];exact .int _ _
  ·simp[lk,e]at E
 ·by_cases e0:o=0
  ·subst e0;simp only[lk,Yz,Y5]at E;subst E;rw[q]at e;injection e with e;injection e with e;subst e;have:=iY rfl C;subst this;exact⟨A.1,A.2.1,by rw[Sort.size_grow,Sort.size_putRow];exact Wx A.2.2 (Vn _ _)⟩
  grind
 grind
theorem Ma{S:Nat→Prop}(u:pE G S w){g:Nat}{k:IntKind}{p:aa}(q:G g=some (p.map λ n=>AV.int k n)){name:String}(o:P.globalNamed name=some g):Lib.TabIs P w name k p:=by
 obtain⟨_,cs,t,fr,e,es⟩:=u g _ q;unfold Lib.TabIs World.var?;rw[o];simp only[Y1,e,Y5];apply Array.ext_getElem?;intro i;rw[show((p.map λ z=>Value.int k z).toArray)[i]? =(p.map λ z=>Value.int k z)[i]? by simp,YD]
 by_cases hi:i<p.length
 ·have h1:=u.cell q (j:=i) (k:=k) (n:=p[i]) (by simp)
  simp only[World.cell?,e]at h1;simp_all
 simp_all
theorem S6{f g:Nat}(hn:fe P f=true)(o:G g=some (Lib.pow10Tab.map λ(n:Int)=>AV.int .u64 n))(i:P.globalNamed "internal/strconv.uint64pow10" =some g)
 (c:∀(n:Int), -9223372036854775808≤n→n≤9223372036854775807→∀w:World,Lib.TabIs P w "internal/strconv.uint64pow10" .u64 Lib.pow10Tab→
  Calls P f #[.int .i64 n] w λ e w'=>e=.returned (.string ⟨(Lib.itoa n).toArray⟩)∧∃k os,w'=grow (w.drewN k) os)
 (n:Int) (h0: -9223372036854775808≤n) (h1:n≤9223372036854775807):FC P G f [] [.int .i64 n] (.str (Lib.itoa n)) []:=by
 refine L0 hn λ S ι w vs _ x j=>?_;obtain⟨u,rfl,p⟩:=po j
 obtain rfl:=p.bU;refine(c n h0 h1 w (Ma x o i)).mono ?_;rintro e w' ⟨rfl,k,os,rfl⟩;exact⟨_,rfl,⟨rfl,rfl,by simp,λ b q=>(Sort.heap_grow_old (w.drewN k) os q).trans rfl⟩,λ S w=>UN _⟩
theorem Zpo{b:Nat}{o:Obj}(h:w.heap[b]? =some o):b<w.heap.size:=(WO.1 h).1
theorem ZU{w':World}{name:String}{k:IntKind}{i:aa}(j:ef w w')(h:Lib.TabIs P w name k i):Lib.TabIs P w' name k i:=by
 unfold Lib.TabIs World.var? at h⊢;cases hg:P.globalNamed name with
 |none=>simp_all
 |some g=>
  rw[hg]at h;simp only[Y1]at h⊢;split at h
  ·rename_i cs t fr e;rw[j.old g (Zpo e),e];exact h
  ·cases h
theorem ef.trans{a b c:World}(h:ef a b)(i:ef b c):ef a c:=
 ⟨i.os.trans h.os,i.output.trans h.output,Wh h.size i.size,λ k j=>(i.old k (Wx j h.size)).trans (h.old k j)⟩
theorem Zy(s p:aj):(Lib.trimPrefix s p).length≤s.length:=by
 unfold Lib.trimPrefix;grind
theorem pE.eT{S:Nat→Prop}(h:pE G S w){g:Nat}{v:Value}(o:G g=some [.eT v]):w.cell? ⟨g,0,none⟩=some v:=by
 have:=(h g _ o).1;generalize i:Value.pointer (some ⟨g,0,none⟩)=u at this;cases this with
 |rp row off bB base bc hS hl dC hr=>
  injection i with i;injection i with i;injection i with h1 h2 h3;subst h1;have p:base=0:=by omega
  subst p;obtain⟨x,j⟩:∃x,bc[0]? =some x:=⟨_,Y3 (by grind)⟩
  have q:=hr 0 _ x rfl j;have q2:=(dC 0 x j).1;cases q;omega
structure TY(p:Bool)(d:aj)(v:Int)(Aq:Int→Prop):Prop where
 no:¬(p=true∧d.length≤9∧1≤v∧Lib.itoa v=d)→Aq 0
 yes:p=true→d.length≤9→1≤v→Lib.itoa v=d→Aq v
end
end Go.Ab
