import Derived.Test.YtjpmdkgonlmddaaGreatDoorAbI
import Derived.Shelf.Strings.FieldsFuncAny
import Derived.Deep.Draws
import Derived.Shelf.Strings.Split
import Derived.Shelf.Spec.TrailingZeros
import Derived.Shelf.Strings.SlTrimAscii
import Derived.Below
import Derived.Laws.World
import Derived.Lib.Join
import Derived.Lib.Split
import Derived.Lib.FieldsP
import Derived.Lib.SlTrimSet
import Derived.Lib.ItoaNum
import Derived.Lib.AtoiAll
import Derived.Lib.TrailingZeros
import Derived.Lib.IndexMore
import Derived.Lib.ConvBytes
import Derived.Lib.Strings
import Derived.Sort.Grow
import Derived.Sort.Row
import Derived.Lib.LaidTab
set_option linter.unusedVariables false
namespace Go.Ab
open Go Go.RowKit Go.Proofs
def bs(l:List UInt8):ByteArray:=⟨l.toArray⟩
structure dF(w0 w:World):Prop where
 os:w.os=w0.os
 output:w.output=w0.output
 size:w0.heap.size≤w.heap.size
 old:∀b,b<w0.heap.size→w.heap[b]? =w0.heap[b]?
theorem dF.refl(w:World):dF w w:=⟨rfl,rfl,Yg _,fun _ _=>rfl⟩
theorem dF.below{w w':World}(h:Below w.heap.size w w'):dF w w':=⟨h.os,h.output,h.size,h.block⟩
theorem dF.fr{w0 w:World}(h:dF w0 w)(Ow:Nat→Prop):Fr Ow w0 w:=⟨h.os,h.output,h.size,fun b hb _=>h.old b hb⟩
theorem dF.bytes(w:World)(e:TypeId)(s:ByteArray):dF w (Lib.bytesWorld w e s):=
 ⟨rfl,rfl,by simp[Lib.bytesWorld,World.freeze,World.alloc,World.drew, -World.alloc_eq, -World.drew_eq],fun j hj=>Lib.bytesWorld_at_old w e s j hj⟩
theorem JQ{P:Program}{G:db}{f:Nat}{args:List AV}{rv:AV}(hn:eF P f=true)
 (h:∀(S:Nat→Prop) (ι:ax) (w:World) (vs:Array Value),(∀b,S b→b<w.heap.size)→ow G S w→az S w ι args vs.toList→
  Calls P f vs w fun e w'=>∃v,e=.returned v∧dF w w'∧∀S w,bR S w rv v):FC P G f [] args rv []:=by
 refine⟨hn,fun o x hx=>by simp[lk]at hx,fun S0 ι0 w0 vs h0 hG hob hι hL=>?_⟩
 refine(h S0 ι0 w0 vs h0 hG hL).mono ?_
 rintro e w' ⟨v,rfl,hk,hrep⟩
 exact⟨v,S0,ι0,rfl,hk.fr _,fun b hb=>⟨.inl hb,Wr (h0 b hb) hk.size⟩,fun b hb=>hb,ax.le_refl _,fun o ho=>hι o (YC _),.bI _ _ (hrep _ _),
  ⟨fun o x hx=>by simp[lk]at hx,fun o x hx=>by simp_all,fun o o' x x' hx=>by simp_all⟩⟩
theorem oe{S:Nat→Prop}{w:World}{ι:ax}{a:AV}{vs:Array Value}(h:az S w ι [a] vs.toList):∃v,vs=#[v]∧bP S w ι a v:=by
 obtain⟨l⟩:=vs
 match l,h with
 | [],h=>have:=h.1;grind
 | [v],h=>exact⟨v,rfl,h.2 0 a v rfl rfl⟩
 |_::_::_,h=>have:=h.1;grind
theorem ow.cell{G:db}{S:Nat→Prop}{w:World}(h:ow G S w){g:Nat}{row:List AV}(hg:G g=some row){j:Nat}{k:IntKind}{n:Int}(hj:row[j]? =some (.int k n)):w.cell? ⟨g,j,none⟩=some (.int k n):=by
 have:=(h g row hg).1
 generalize hp:Value.pointer (some ⟨g,0,none⟩)=v at this
 cases this with
 |rp row off bd base vals hS hl hcell hr=>
  injection hp with hp
  injection hp with hp
  injection hp with h1 h2 h3
  subst h1
  have hb:base=0:=by omega
  subst hb
  have hlt:j<vals.length:=by rw[←hl];exact(Wo.1 hj).1
  have hv:vals[j]? =some vals[j]:=Y3 hlt
  have q1:=hr j _ _ hj hv
  have q2:=(hcell j _ hv).1
  generalize vals[j]=x at q1 q2;cases q1;simp_all
theorem QI{S:Nat→Prop}{w:World}(l:List UInt8):bR S w (.str l) (.string ⟨l.toArray⟩):=by
 have:=bR.str (S:=S) (w:=w) ⟨l.toArray⟩
 omega
theorem QS{P:Program}{G:db}{f:Nat}{oin:Os}{args:List AV}{v:AV}{os os':Os}(o:Nat){rs:List (List AV)}(h:FC P G f oin args v os)(hin:oin.length≤W)
 (ho:lk os o=some (.rows false rs)) (j7:(rs.all fun r=>r.all gY)=true) (hos:(os'.all fun e=>decide (e.1<W))=true)
 (hE:jd oin.length v os' v (gy os [(o,some (.rows true rs))])):FC P G f oin args v os':=by
 refine⟨h.1,fun o x hx=>?_,fun S0 ι0 w0 vs h0 hG hob hι hL=>?_⟩
 ·have:=YG.1 hos _ (sV hx)
  simp_all
 refine(h.2.2 S0 ι0 w0 vs h0 hG hob hι hL).mono ?_
 rintro e w ⟨u,S,ι,rfl,q1,q2,q3,q4,q5,q6,q7⟩
 obtain⟨os2,σ,hfl,hcv⟩:=hE.h
 have him:∀j L,ι0 j=some L→j<oin.length:=fun j L e=>by
  grind
 let C':Cx:=⟨fun _=>none,w0,⟨0,1,false⟩,dx w0 ι0 oin,S0,oin.length,ι0,him,fun _=>undef,[],[]⟩
 have hi':Inv C' S ι (fun x=>W≤x) (cz [(0,v)] os) {tmps:=#[u],defers:=[]} w:=by
  refine⟨fun t=>?_,rfl,⟨rfl,fun t ht=>absurd ht (W9 t),fun q hq=>(by cases hq)⟩,q7.ob,q7.own,q7.inj,fun b hb=>(q2 b hb).2,fun b hb=>(q2 b hb).1,q5,q1,fun b hb=>.inl hb,fun g row hg=>(by cases hg),q3,fun j L e=>q4 j _ e⟩
  cases t with
  |zero=>exact q6
  |succ t=>exact .bI _ _ (.undef _)
 have ho1:(cz [(0,v)] os).os o=some (.rows false rs):=ho
 have hob1:=hi'.ob o _ ho1
 have hi2:=hi'.pP (x':=.rows true rs) ho1 rfl rfl rfl (by
  rcases hob1 with h|⟨l,vals,h1,h2,h3,h4,h5⟩
  ·exact .inl h
  ·refine .inr ⟨l,vals,h1,h2,h3,h4,fun j r hr=>?_⟩
   have hR:=h5 j r hr
   simp only[Yu,Yc]at hR;simp only[Yi];exact hR.free (YG.1 j7 _ (YA hr)))
 have e:({cz [(0,v)] os with os:=ay (cz [(0,v)] os).os [(o,some (.rows true rs))]}:FS)=cz [(0,v)] (gy os [(o,some (.rows true rs))]):=by
  unfold cz;rw[AL]
 rw[e]at hi2
 obtain⟨ι2,hi3⟩:=(Inv.ql hfl hi2).uh hcv
 exact⟨u,S,ι2,rfl,hi3.fr,fun b hb=>⟨hi3.sn b hb,hi3.sb b hb⟩,hi3.s0,fun j L e=>hi3.hj j L e,hi3.un,hi3.tm 0,⟨hi3.ob,hi3.own,hi3.inj⟩⟩
theorem PS{P:Program}{G:db}{f:Nat}{args:List AV}{rv:AV}{os:Os}(k z:Nat)(h:FC P G f [(0,.rows true [])] args rv os)(hk:args[k]? =some (.an 0 z)):FC P G f [] (args.set k .dq) rv os:=by
 refine⟨h.1,h.2.1,fun S0 ι0 w0 vs h0 hG hob hι hL=>?_⟩
 let ι1:ax:=fun o=>if o=0 then some none else ι0 o
 have hle:ι0.le ι1:=fun o x e=>by
  simp_all
 have hOw:dx w0 ι1 [(0,.rows true [])]=dx w0 ι0 []:=by
  funext b
  apply propext;constructor
  ·rintro(h|⟨o,x,l,h1,h2,h3,h4⟩)
   ·exact .inl h
   grind
  ·rintro(h|⟨o,x,l,h1,_⟩)
   ·exact .inl h
   simp_all
 have px:=eZ hk
 refine(h.2.2 S0 ι1 w0 vs h0 hG ?_ ?_ ⟨by rw[←hL.1];simp,fun j x v hx hv=>?_⟩).mono ?_
 ·rw[hOw]
  refine⟨fun o x hx=>?_,fun o x hx hl l e=>?_,fun o o' x x' hx hx' hl hl' l l' e=>?_⟩
  ·by_cases q:o=0
   ·subst q
    simp only[lk,Yi,Y2]at hx;subst hx
    exact .inl ⟨by rfl,rfl⟩
   ·simp[lk,q]at hx
  all_goals grind
 ·grind
 ·by_cases q:j=k
  ·subst q
   rw[hk]at hx;injection hx with hx;subst hx
   have:=hL.2 j .dq v (by simp_all) hv
   cases this with
   |bI _ _ h=>cases h with|dq a=>exact .fk 0 z a (by rfl)
  ·exact(hL.2 j x v (by grind) hv).mono (fun _ h=>h) (fun _ _=>rfl) hle
 ·rintro e w' ⟨v,S',ι',rfl,q1,q2,q3,q4,q5,q6,q7⟩
  rw[hOw]at q1 q2 q7
  exact⟨v,S',ι',rfl,q1,q2,q3,fun o x e=>q4 o x (hle o x e),q5,q6,q7⟩
structure Gv where
 ml:Int
 e0:Value
 e1:Value
 h0:e0=.nilIface∨∃te pe,e0=.iface te pe
 h1:e1=.nilIface∨∃te pe,e1=.iface te pe
def eD(l:List Int):List Int:=l.mergeSort fun x y=>decide (x≤y)
def fY(l:List (List UInt8)):List (List UInt8):=l.mergeSort fun x y=>decide (x≤y)
def cv:List UInt8:=[108,111,103,45]
def jz(s:List UInt8):Int:=
 match Lib.atoiAll (Lib.trimPrefix s cv)with
 |.ok n=>if Lib.hasPrefix s cv=true∧(Lib.trimPrefix s cv).length≤9∧1≤n∧Lib.itoa n=Lib.trimPrefix s cv then n else 0
 |_=>0
set_option maxRecDepth 100000
theorem A8{x:Int}(h1: -9223372036854775808≤x)(h2:x≤9223372036854775807):IntKind.wrap IntKind.i64 x=x:=by
 rw[Yz];omega
def dK(d m s:Int)(tab:List Int):List AV:=.int .u32 d::.int .i32 m::.int .u32 s::tab.map (fun n=>.int .u32 n)
def pN(c:Int):Int:=bU BinOp.xor IntKind.u32 (c.fdiv (2^min (Int.toNat 1) IntKind.u32.bits)) (IntKind.u32.wrap (3988292384*bU BinOp.and IntKind.u32 c 1))
def iV:Nat→Int→Int
 |0,c=>c
 |k+1,c=>iV k (pN c)
def jR(tab:List Int):Nat→List Int
 |0=>tab
 |k+1=>(jR tab k).set k (iV 8 (IntKind.u32.wrap (k:Int)))
theorem Dt(tab:List Int):∀k,(jR tab k).length=tab.length
 |0=>rfl
 |k+1=>by simp[jR,Dt tab k]
theorem K5(d m s:Int)(tab:List Int):(dK d m s tab).length=tab.length+3:=by simp[dK]
theorem QX(d m s:Int)(tab:List Int)(k:Nat)(v:Int)(h:k<tab.length):setAt (dK d m s tab) (3+k) [.int .u32 v]=dK d m s (tab.set k v):=by
 have h1:setAt (dK d m s tab) (3+k) [.int .u32 v]=(dK d m s tab).set (3+k) (.int .u32 v):=by
  unfold setAt
  rw[List.set_eq_take_append_cons_drop,if_pos (by rw[K5];omega)]
  rfl
 rw[h1,Nat.add_comm];simp[dK,YX]
def hZ:List Int:=List.replicate 256 0
def km:List Int:=jR hZ 256
def c0:Int:=bU BinOp.xor IntKind.u32 (if IntKind.u32.signed=true then -1 else IntKind.u32.max) 0
def oJ(c x:Int):Int:=bU .xor .u8 (IntKind.u8.wrap c) x
theorem GB(c x:Int):0≤oJ c x∧oJ c x<256:=by
 unfold oJ bU;rw[WK];omega
theorem Hb{d m s:Int}(ix:Int)(h:ix<256):(dK d m s km)[0+3+ix.toNat*1]? =some (.int .u32 (km.getD ix.toNat 0)):=by
 have hl:km.length=256:=by unfold km;rw[Dt];simp[hZ]
 rw[show 0+3+ix.toNat*1=ix.toNat+3 by omega]
 simp only[dK,List.getElem?_cons_succ,Yn,W6]
 simp_all
def dC(c:Int):List Int→Int
 | []=>c
 |x::r=>dC (bU .xor .u32 (c.fdiv (2^min (Int.toNat 8) IntKind.u32.bits)) (km.getD (oJ c x).toNat 0)) r
def cN(s:Int):Int:=bU BinOp.xor IntKind.u32 (if IntKind.u32.signed=true then -1 else IntKind.u32.max) s
def Au(s:Int)(b:List Int):Int:=bU BinOp.xor IntKind.u32 (if IntKind.u32.signed=true then -1 else IntKind.u32.max) (dC (cN s) b)
def dn(b:Bool):List AV:=bif b then dK 1 0 0 km else dK 0 0 0 hZ
def ke(b:List Int):Int:=bU BinOp.xor IntKind.u32 (if IntKind.u32.signed=true then -1 else IntKind.u32.max) (dC c0 b)
open Go.Sort (Holds putRow grow)
theorem Lo{Ow S S':Nat→Prop}{w w':World}{ι:ax}{os:Nat→Option AO}(h:jG Ow S w ι os)(hs0:∀b,S b→b<w.heap.size)(hk:dF w w')(hs:∀b,S b→S' b)
 (nS:∀b,S' b→S b∨w.heap.size≤b):jG Ow S' w' ι os:=by
 have hf:∀o x,os o=some x→x.live=true→∀l,ι o=some (some l)→∀b,cj w' x l b→cj w x l b:=fun o x hx hl l e b hb=>eP (fun b hb=>hk.old b (h.own o x hx hl l e b hb).2.2) hb
 refine⟨fun o x hx=>(h.ob o x hx).mono hs (fun b hb=>hk.old b (hs0 b hb)) (ax.le_refl _) (fun l hl hlv b hb=>hk.old b (h.own o x hx hlv l hl b hb).2.2),fun o x hx hl l e b hb=>?_,fun o o' x x' hx hx' hl hl' l l' e e' b hb mJ=>?_⟩
 ·obtain⟨h1,h2,h3⟩:=h.own o x hx hl l e b (hf o x hx hl l e b hb)
  refine⟨h1,fun q=>?_,Wr h3 hk.size⟩
  grind
 ·exact h.inj o o' x x' hx hx' hl hl' l l' e e' b (hf o x hx hl l e b hb) (hf o' x' hx' hl' l' e' b mJ)
theorem Rp{P:Program}{G:db}{f:Nat}{oin:Os}{args:List AV}{xs:List (List UInt8)}(hn:eF P f=true)(hl:xs.length≤bm)(hoin:(oin.all fun e=>decide (e.1<W))=true)(hoW:oin.length≤W)
 (h:∀(Ow S:Nat→Prop) (ι:ax) (w:World) (vs:Array Value),(∀b,S b→b<w.heap.size)→ow G S w→jG Ow S w ι (lk oin)→az S w ι args vs.toList→
  Calls P f vs w fun e w'=>dF w w'∧((xs=[]∧∃a,e=.returned (.slice a 0 0))∨∃b o cap,e=.returned (.slice (some ⟨b,o,none⟩) xs.length cap)∧xs.length≤cap∧w.heap.size≤b∧b<w'.heap.size∧
   ∀(i:Nat) s,xs[i]? =some s→w'.cell? ⟨b,o+i,none⟩=some (.string (bs s)))):FC P G f oin args (.sl (xs.map fy)) oin:=by
 refine⟨hn,fun o x hx=>?_,fun S0 ι0 w0 vs h0 hG hob hι hL=>?_⟩
 ·have:=YG.1 hoin _ (sV hx)
  simp_all
 refine(h _ S0 ι0 w0 vs h0 hG hob hL).mono ?_
 rintro e w' ⟨hk,h⟩
 rcases h with ⟨rfl,a,rfl⟩|⟨b,o,cap,rfl,hcap,hb1,hb2,hc⟩
 ·refine⟨_,S0,ι0,rfl,hk.fr _,fun b hb=>⟨.inl hb,Wr (h0 b hb) hk.size⟩,fun b hb=>hb,ax.le_refl _,fun o ho=>hι o (YZ hoW ho),.bI _ _ ?_,Lo hob h0 hk (fun b hb=>hb) (fun b hb=>.inl hb)⟩
  cases a with
  |none=>exact .fI
  |some a=>exact .sl [] a 0 0 (fun _=>[]) (Yg _) (by simp) (fun h=>absurd rfl h) (fun i r hr=>by simp at hr) (fun i j v hi=>by simp) (fun i j r x v hr=>by simp)
 ·refine⟨_,fun k=>S0 k∨k=b,ι0,rfl,hk.fr _,fun k hb=>?_,fun k hb=>.inl hb,ax.le_refl _,fun o ho=>hι o (YZ hoW ho),.bI _ _ ?_,
   Lo hob h0 hk (fun b hb=>.inl hb) (fun k hb=>hb.elim .inl (fun e=>.inr (e▸hb1)))⟩
  ·rcases hb with hb|rfl
   ·grind
   ·exact⟨Or.inr (Or.inl hb1),hb2⟩
  ·have e:xs.length=(xs.map fy).length:=by simp
   rw[e]
   refine .sl (xs.map fy) ⟨b,o,none⟩ cap 1 (fun i=>[.string (bs (xs.getD i []))]) (by omega) (by omega) (fun _=>⟨.inr rfl,rfl⟩) (fun i r hr=>?_) (fun i j v hi hv=>?_) (fun i j r x v hr hx hv=>?_)
   ·rw[Yn,Yj]at hr
    obtain⟨s,_,rfl⟩:=hr
    simp
   ·have hi:i<xs.length:=by simpa using hi
    cases j with
    |succ j=>simp at hv
    |zero=>
     simp only[List.getElem?_cons_zero,Y2]at hv
     subst hv
     have q:=hc i xs[i] (by simp)
     have e2:xs.getD i []=xs[i]:=by simp[W6,hi]
     refine⟨?_,rfl⟩
     grind
   ·rw[Yn,Yj]at hr
    obtain⟨s,hs,rfl⟩:=hr
    cases j with
    |succ j=>simp at hv
    |zero=>
     simp only[List.getElem?_cons_zero,Y2]at hv hx
     subst hv
     simp only[fy,List.getElem?_cons_zero,Y2]at hx
     subst hx
     rw[W6,hs]
     exact .str (bs s)
theorem TZ(l:List Int):(eD l).length=l.length:=by simp[eD]
theorem Ro{P:Program}{G:db}{f:Nat}(hn:eF P f=true)
 (c:∀(bd off cap:Nat) (zs:List Int) (w:World),Holds (Value.int .i64) w bd off zs.toArray→bd<w.heap.size→zs.length<4611686018427387904→
  Calls P f #[.slice (some ⟨bd,off,none⟩) zs.length cap] w fun e w'=>e=.returned (.tuple #[])∧∃n os,w'=grow (putRow (Value.int .i64) (Sort.ahead w n) bd off (zs.mergeSort fun x y=>decide (x≤y)).toArray) os)
 (c0:∀(p:Option Addr) (cap:Nat) (w:World),Calls P f #[.slice p 0 cap] w fun e w'=>e=.returned (.tuple #[])∧w'=w)
 (l:List Int) (hl:l.length≤bm):FC P G f [(0,.rows true (List.map (bG .i64) l))] [.an 0 1] (.bN []) [(0,.rows true (List.map (bG .i64) (eD l)))]:=by
 refine⟨hn,fun o x hx=>?_,fun S0 ι0 w0 vs h0 hG hob hι hL=>?_⟩
 ·by_cases e:o=0
  ·subst e;unfold W;omega
  ·simp[lk,e]at hx
 obtain⟨v,rfl,hv⟩:=oe hL
 have hW:∀o,W≤o→ι0 o=none:=fun o ho=>hι o (by unfold W at ho;grind)
 have he:∀(a:Option Addr) (cap:Nat),l=[]→v=.slice a 0 cap→Calls P f #[v] w0 fun e w'=>∃v S' ι',e=.returned v∧Fr (dx w0 ι0 [(0,AO.rows true (List.map (bG .i64) l))]) w0 w'∧
  (∀b,S' b→(S0 b∨dx w0 ι0 [(0,AO.rows true (List.map (bG .i64) l))] b)∧b<w'.heap.size)∧(∀b,S0 b→S' b)∧ι0.le ι'∧(∀o,W≤o→ι' o=none)∧
  bP S' w' ι' (.bN []) v∧jG (dx w0 ι0 [(0,AO.rows true (List.map (bG .i64) l))]) S' w' ι' (lk [(0,AO.rows true (List.map (bG .i64) (eD l)))]):=by
  rintro a cap rfl rfl
  refine(c0 a cap w0).mono ?_
  rintro e w' ⟨rfl,rfl⟩
  exact⟨_,S0,ι0,rfl,⟨rfl,rfl,Yg _,fun _ _ _=>rfl⟩,fun b hb=>⟨.inl hb,h0 b hb⟩,fun b hb=>hb,ax.le_refl _,hW,.bN [] #[] rfl (fun j x v h=>by simp at h),by rw[show eD []=[] by simp[eD]];exact hob⟩
 have hob0:=hob.ob 0 _ rfl
 rcases hob0 with ⟨q,hr⟩|⟨L,vals,q,hcnt,hm,hat,hrep⟩
 ·have hl0:l=[]:=by simpa using hr
  rcases kp hv with ⟨l',ab,cap,q',_⟩|⟨q',ab,gp⟩
  all_goals simp_all
 rcases kp hv with ⟨l',ab,cap,q',gp,g1,g2,g3,gz,ga⟩|⟨q',ab,gp⟩
 rotate_left
 ·simp_all
 rw[q]at q';injection q' with q';injection q' with q';subst q'
 rw[Yb]at hcnt
 by_cases hl0:l=[]
 ·simp_all
 have hpos:0<l.length:=WR.2 hl0
 have hcap:cap≠0:=by omega
 obtain rfl:=ga hcap
 have zu:∀(i:Nat) z,l[i]? =some z→vals i=[.int .i64 z]:=by
  intro i z hz
  have:=hrep i [.int .i64 z] (by simp_all)
  simp only[Yi]at this
  obtain⟨hlen,hr⟩:=this
  match X3:vals i,hlen with
  | [u],_=>
   have:=hr 0 _ u rfl (by grind)
   cases this;rfl
 have mn:L.bo=1:=by
  obtain⟨z,hz⟩:∃z,l[0]? =some z:=⟨_,Y3 hpos⟩
  have:=hat.2.1 0 (by simp_all)
  rw[zu 0 z hz]at this;exact this.symm
 have hsz:L.base+l.length≤L.size:=by
  have:=hat.1
  rw[Yb,mn,Nat.mul_one]at this;exact this
 have hown:=hob.own 0 _ rfl rfl L q _ (.inl rfl)
 have hH:Holds (Value.int .i64) w0 L.bd L.base l.toArray:=by
  intro j hj
  have hj':j<l.length:=by simpa using hj
  have h1:=hat.2.2 j 0 (.int .i64 l[j]) (by simp_all) (by simp_all)
  rw[mn,Nat.mul_one,Nat.add_zero]at h1
  refine⟨?_,(hm (L.base+j)).2 (.inl (by omega))⟩
  rw[show l.toArray[j]! =l[j] by simp_all]
  exact h1.1
 rw[gp,←hcnt];unfold bm at hl
 refine(c L.bd L.base cap l w0 hH hown.2.2 (by omega)).mono ?_
 rintro e w' ⟨rfl,n,os,rfl⟩
 rw[show(l.mergeSort fun x y=>decide (x≤y))=eD l from rfl]
 have hs:=TZ l
 have FX:∀b:Nat,(Sort.ahead w0 n).heap[b]? =w0.heap[b]? :=fun b=>rfl
 have gh:L.bd<(putRow (Value.int .i64) (Sort.ahead w0 n) L.bd L.base (eD l).toArray).heap.size:=by rw[Sort.size_putRow];exact hown.2.2
 have O5:Holds (Value.int .i64) (Sort.ahead w0 n) L.bd L.base l.toArray:=hH
 have hold:∀b,b<w0.heap.size→b≠L.bd→(grow (putRow (Value.int .i64) (Sort.ahead w0 n) L.bd L.base (eD l).toArray) os).heap[b]? =w0.heap[b]? :=fun b hb hne=>by
  rw[Sort.heap_grow_old _ _ (by simp_all)]
  unfold putRow Sort.mapBlock
  grind
 have hin:∀(j:Nat) z,(eD l)[j]? =some z→eY (grow (putRow (Value.int .i64) (Sort.ahead w0 n) L.bd L.base (eD l).toArray) os) L.bd (L.base+j)=some (.int .i64 z):=fun j z hz=>by
  have hj:=eZ hz
  show World.cell? _ _=_
  rw[Sort.cell?_grow _ _ _ gh,Sort.cell?_putRow _ _ _ _ l.toArray _ O5 (by simp[hs]) j (by omega)]
  simp_all
 have hout:∀j:Nat,¬(L.base≤j∧j<L.base+l.length)→eY (grow (putRow (Value.int .i64) (Sort.ahead w0 n) L.bd L.base (eD l).toArray) os) L.bd j=eY w0 L.bd j:=fun j hj=>by
  show World.cell? _ _=_
  rw[Sort.cell?_grow _ _ _ gh,Sort.cell?_putRow_other _ _ _ _ _ _ (by grind)]
  rfl
 refine⟨_,S0,ι0,rfl,⟨rfl,rfl,by simp,fun b hb hn=>hold b hb (fun e=>hn (e▸hown.1))⟩,fun b hb=>⟨.inl hb,by grind⟩,fun b hb=>hb,ax.le_refl _,hW,
  .bN [] #[] rfl (fun j x v h=>by simp at h),⟨fun o x hx=>?_,fun o x hx hl' l' e b hb=>?_,fun o o' x x' hx hx' _ _ l1 l2 e1 e2 b _ _=>?_⟩⟩
 ·by_cases e:o=0
  ·subst e
   simp only[lk,Yi,Y2]at hx;subst hx
   refine .inr ⟨L,fun i=>[.int .i64 ((eD l).getD i 0)],q,by simp_all,fun j=>⟨fun hj=>?_,fun hj=>?_⟩,⟨by simp_all,fun i hi=>mn.symm,fun i j v hi hv=>?_⟩,fun i r hr=>?_⟩
   ·by_cases h9:L.base≤j∧j<L.base+l.length
    ·obtain⟨z,hz⟩:∃z,(eD l)[j-L.base]? =some z:=⟨_,Y3 (by omega)⟩
     grind
    ·rw[hout j h9];exact(hm j).1 hj
   ·rw[Sort.frozen?_grow _ _ _ gh,Sort.frozen?_putRow]
    exact(hm j).2 hj
   ·rw[Yb,hs]at hi
    cases j with
    |succ j=>simp at hv
    |zero=>
     simp only[List.getElem?_cons_zero,Y2]at hv
     subst hv;rw[mn,Nat.mul_one,Nat.add_zero]
     have hz:=Y3 (l:=eD l) (i:=i) (by omega)
     refine⟨?_,rfl⟩
     grind
   ·rw[Yn,Yj]at hr
    obtain⟨z,hz,rfl⟩:=hr
    simp only[Yi]
    refine⟨rfl,fun j x v hx hv=>?_⟩
    cases j with
    |succ j=>simp at hv
    |zero=>
     simp only[List.getElem?_cons_zero,Y2]at hv
     simp only[bG,List.getElem?_cons_zero,Y2]at hx
     subst hv;subst hx
     rw[W6,hz]
     exact .int _ _
  ·simp[lk,e]at hx
 ·by_cases e0:o=0
  ·subst e0
   simp only[lk,Yi,Y2]at hx;subst hx
   rw[q]at e;injection e with e;injection e with e;subst e
   have:=iw rfl hb
   subst this
   exact⟨hown.1,hown.2.1,by rw[Sort.size_grow,Sort.size_putRow];exact Wr hown.2.2 (WP _ _)⟩
  grind
 grind
theorem JL{P:Program}{G:db}{S:Nat→Prop}{w:World}(hG:ow G S w){g:Nat}{k:IntKind}{zs:List Int}(hg:G g=some (zs.map fun n=>AV.int k n)){name:String}(mg:P.globalNamed name=some g):Lib.TabIs P w name k zs:=by
 obtain⟨_,cs,t,fr,e,es⟩:=hG g _ hg
 unfold Lib.TabIs World.var?;rw[mg];simp only[Y1,e,Y2];apply Array.ext_getElem?;intro i
 rw[show((zs.map fun z=>Value.int k z).toArray)[i]? =(zs.map fun z=>Value.int k z)[i]? by simp,Yn]
 by_cases hi:i<zs.length
 ·have h1:=hG.cell hg (j:=i) (k:=k) (n:=zs[i]) (by simp)
  simp only[World.cell?,e]at h1;simp_all
 simp_all
theorem QR{P:Program}{G:db}{f g:Nat}(hn:eF P f=true)(hg:G g=some (Lib.pow10Tab.map fun(n:Int)=>AV.int .u64 n))(mg:P.globalNamed "internal/strconv.uint64pow10" =some g)
 (c:∀(n:Int), -9223372036854775808≤n→n≤9223372036854775807→∀w:World,Lib.TabIs P w "internal/strconv.uint64pow10" .u64 Lib.pow10Tab→
  Calls P f #[.int .i64 n] w fun e w'=>e=.returned (.string ⟨(Lib.itoa n).toArray⟩)∧∃k os,w'=grow (w.drewN k) os)
 (n:Int) (h0: -9223372036854775808≤n) (h1:n≤9223372036854775807):FC P G f [] [.int .i64 n] (.str (Lib.itoa n)) []:=by
 refine JQ hn fun S ι w vs _ hG hL=>?_
 obtain⟨u,rfl,h2⟩:=oe hL
 obtain rfl:=h2.bu
 refine(c n h0 h1 w (JL hG hg mg)).mono ?_
 rintro e w' ⟨rfl,k,os,rfl⟩
 exact⟨_,rfl,⟨rfl,rfl,by simp,fun b hb=>(Sort.heap_grow_old (w.drewN k) os hb).trans rfl⟩,fun S w=>QI _⟩
theorem Tn{w:World}{b:Nat}{o:Obj}(h:w.heap[b]? =some o):b<w.heap.size:=(Wn.1 h).1
theorem R2{P:Program}{w w':World}{name:String}{k:IntKind}{zs:List Int}(hk:dF w w')(h:Lib.TabIs P w name k zs):Lib.TabIs P w' name k zs:=by
 unfold Lib.TabIs World.var? at h⊢
 cases hg:P.globalNamed name with
 |none=>simp_all
 |some g=>
  rw[hg]at h;simp only[Y1]at h⊢;split at h
  ·rename_i cs t fr e
   rw[hk.old g (Tn e),e];exact h
  ·cases h
theorem dF.trans{a b c:World}(h:dF a b)(h':dF b c):dF a c:=
 ⟨h'.os.trans h.os,h'.output.trans h.output,YZ h.size h'.size,fun k hk=>(h'.old k (Wr hk h.size)).trans (h.old k hk)⟩
theorem R8(s p:List UInt8):(Lib.trimPrefix s p).length≤s.length:=by
 unfold Lib.trimPrefix
 grind
theorem ow.ei{G:db}{S:Nat→Prop}{w:World}(h:ow G S w){g:Nat}{v:Value}(hg:G g=some [.ei v]):w.cell? ⟨g,0,none⟩=some v:=by
 have:=(h g _ hg).1
 generalize hp:Value.pointer (some ⟨g,0,none⟩)=u at this
 cases this with
 |rp row off bd base vals hS hl hcell hr=>
  injection hp with hp
  injection hp with hp
  injection hp with h1 h2 h3
  subst h1
  have hb:base=0:=by omega
  subst hb
  obtain⟨x,hx⟩:∃x,vals[0]? =some x:=⟨_,Y3 (by grind)⟩
  have q1:=hr 0 _ x rfl hx
  have q2:=(hcell 0 x hx).1
  cases q1;omega
structure PV(p:Bool)(d:List UInt8)(v:Int)(Ans:Int→Prop):Prop where
 no:¬(p=true∧d.length≤9∧1≤v∧Lib.itoa v=d)→Ans 0
 yes:p=true→d.length≤9→1≤v→Lib.itoa v=d→Ans v
end Go.Ab
