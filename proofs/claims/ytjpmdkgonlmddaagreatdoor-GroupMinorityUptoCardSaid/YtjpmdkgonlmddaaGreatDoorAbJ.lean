import Derived.Test.YtjpmdkgonlmddaaGreatDoorAbI
import Derived.Shelf.Strings.FieldsFuncAny
import Derived.Deep.Draws
import Derived.Shelf.Strings.Split
import Derived.Shelf.Spec.TrailingZeros
import Derived.Shelf.Strings.SlTrimAscii
import Derived.Below
import Derived.Laws.World
import Derived.Lib.Join
import Derived.Lib.Split
import Derived.Lib.FieldsP
import Derived.Lib.SlTrimSet
import Derived.Lib.ItoaNum
import Derived.Lib.AtoiAll
import Derived.Lib.TrailingZeros
import Derived.Lib.IndexMore
import Derived.Lib.ConvBytes
import Derived.Lib.Strings
import Derived.Sort.Grow
import Derived.Sort.Row
import Derived.Lib.LaidTab
set_option linter.unusedVariables false
namespace Go.Ab
open Go Go.RowKit Go.Proofs
def bs(l:List UInt8):ByteArray:=⟨l.toArray⟩
structure Keeps(w0 w:World):Prop where
 os:w.os=w0.os
 output:w.output=w0.output
 size:w0.heap.size≤w.heap.size
 old:∀b,b<w0.heap.size→w.heap[b]? =w0.heap[b]?
theorem Keeps.refl(w:World):Keeps w w:=⟨rfl,rfl,Yg _,fun _ _=>rfl⟩
theorem Keeps.below{w w':World}(h:Below w.heap.size w w'):Keeps w w':=⟨h.os,h.output,h.size,h.block⟩
theorem Keeps.fr{w0 w:World}(h:Keeps w0 w)(Ow:Nat→Prop):Fr Ow w0 w:=⟨h.os,h.output,h.size,fun b hb _=>h.old b hb⟩
theorem Keeps.bytes(w:World)(e:TypeId)(s:ByteArray):Keeps w (Lib.bytesWorld w e s):=
 ⟨rfl,rfl,by simp[Lib.bytesWorld,World.freeze,World.alloc,World.drew, -World.alloc_eq, -World.drew_eq],fun j hj=>Lib.bytesWorld_at_old w e s j hj⟩
theorem ZrS{P:Program}{G:Gmap}{f:Nat}{args:List AV}{rv:AV}(hn:callB P f=true)
 (h:∀(S:Nat→Prop) (ι:Imap) (w:World) (vs:Array Value),(∀b,S b→b<w.heap.size)→GOk G S w→RepL S w ι args vs.toList→
  Calls P f vs w fun e w'=>∃v,e=.returned v∧Keeps w w'∧∀S w,IRep S w rv v):FC P G f [] args rv []:=by
 refine⟨hn,fun o x hx=>by simp[lk]at hx,fun S0 ι0 w0 vs h0 hG hob hι hL=>?_⟩
 refine(h S0 ι0 w0 vs h0 hG hL).mono ?_
 rintro e w' ⟨v,rfl,hk,hrep⟩
 exact⟨v,S0,ι0,rfl,hk.fr _,fun b hb=>⟨.inl hb,Wp (h0 b hb) hk.size⟩,fun b hb=>hb,Imap.le_refl _,fun o ho=>hι o (Yv _),.imm _ _ (hrep _ _),
  ⟨fun o x hx=>by simp[lk]at hx,fun o x hx=>by simp_all,fun o o' x x' hx=>by simp_all⟩⟩
theorem args1{S:Nat→Prop}{w:World}{ι:Imap}{a:AV}{vs:Array Value}(h:RepL S w ι [a] vs.toList):∃v,vs=#[v]∧Rep S w ι a v:=by
 obtain⟨l⟩:=vs
 match l,h with
 | [],h=>have:=h.1;grind
 | [v],h=>exact⟨v,rfl,h.2 0 a v rfl rfl⟩
 |_::_::_,h=>have:=h.1;grind
theorem GOk.cell{G:Gmap}{S:Nat→Prop}{w:World}(h:GOk G S w){g:Nat}{row:List AV}(hg:G g=some row){j:Nat}{k:IntKind}{n:Int}(hj:row[j]? =some (.int k n)):w.cell? ⟨g,j,none⟩=some (.int k n):=by
 have:=(h g row hg).1
 generalize hp:Value.pointer (some ⟨g,0,none⟩)=v at this
 cases this with
 |rp row off blk base vals hS hl hcell hr=>
  injection hp with hp
  injection hp with hp
  injection hp with h1 h2 h3
  subst h1
  have hb:base=0:=by omega
  subst hb
  have hlt:j<vals.length:=by rw[←hl];exact(YC.1 hj).1
  have hv:vals[j]? =some vals[j]:=Y3 hlt
  have q1:=hr j _ _ hj hv
  have q2:=(hcell j _ hv).1
  generalize vals[j]=x at q1 q2;cases q1;simp_all
theorem Zsv{S:Nat→Prop}{w:World}(l:List UInt8):IRep S w (.str l) (.string ⟨l.toArray⟩):=by
 have:=IRep.str (S:=S) (w:=w) ⟨l.toArray⟩
 omega
theorem ZsU{P:Program}{G:Gmap}{f:Nat}{oin:Os}{args:List AV}{v:AV}{os os':Os}(o:Nat){rs:List (List AV)}(h:FC P G f oin args v os)(hin:oin.length≤W)
 (ho:lk os o=some (.rows false rs)) (hfree:(rs.all fun r=>r.all Zb8)=true) (hos:(os'.all fun e=>decide (e.1<W))=true)
 (hE:EndG oin.length v os' v (updL os [(o,some (.rows true rs))])):FC P G f oin args v os':=by
 refine⟨h.1,fun o x hx=>?_,fun S0 ι0 w0 vs h0 hG hob hι hL=>?_⟩
 ·have:=YF.1 hos _ (ZiL hx)
  simp_all
 refine(h.2.2 S0 ι0 w0 vs h0 hG hob hι hL).mono ?_
 rintro e w ⟨u,S,ι,rfl,q1,q2,q3,q4,q5,q6,q7⟩
 obtain⟨os2,σ,hfl,hcv⟩:=hE.h
 have him:∀j L,ι0 j=some L→j<oin.length:=fun j L e=>by
  grind
 let C':Cx:=⟨fun _=>none,w0,⟨0,1,false⟩,OwOf w0 ι0 oin,S0,oin.length,ι0,him,fun _=>undef,[],[]⟩
 have hi':Inv C' S ι (fun x=>W≤x) (toFS [(0,v)] os) {tmps:=#[u],defers:=[]} w:=by
  refine⟨fun t=>?_,rfl,⟨rfl,fun t ht=>absurd ht (W9 t),fun q hq=>(by cases hq)⟩,q7.ob,q7.own,q7.inj,fun b hb=>(q2 b hb).2,fun b hb=>(q2 b hb).1,q5,q1,fun b hb=>.inl hb,fun g row hg=>(by cases hg),q3,fun j L e=>q4 j _ e⟩
  cases t with
  |zero=>exact q6
  |succ t=>exact .imm _ _ (.undef _)
 have ho1:(toFS [(0,v)] os).os o=some (.rows false rs):=ho
 have hob1:=hi'.ob o _ ho1
 have hi2:=hi'.reform (x':=.rows true rs) ho1 rfl rfl rfl (by
  rcases hob1 with h|⟨l,vals,h1,h2,h3,h4,h5⟩
  ·exact .inl h
  ·refine .inr ⟨l,vals,h1,h2,h3,h4,fun j r hr=>?_⟩
   have hR:=h5 j r hr
   simp only[Yr,Y9]at hR;simp only[Yh];exact hR.free (YF.1 hfree _ (YA hr)))
 have e:({toFS [(0,v)] os with os:=updO (toFS [(0,v)] os).os [(o,some (.rows true rs))]}:FS)=toFS [(0,v)] (updL os [(o,some (.rows true rs))]):=by
  unfold toFS;rw[Zj7]
 rw[e]at hi2
 obtain⟨ι2,hi3⟩:=(Inv.fills hfl hi2).cov hcv
 exact⟨u,S,ι2,rfl,hi3.fr,fun b hb=>⟨hi3.sn b hb,hi3.sb b hb⟩,hi3.s0,fun j L e=>hi3.hj j L e,hi3.un,hi3.tm 0,⟨hi3.ob,hi3.own,hi3.inj⟩⟩
theorem Zts{P:Program}{G:Gmap}{f:Nat}{args:List AV}{rv:AV}{os:Os}(k z:Nat)(h:FC P G f [(0,.rows true [])] args rv os)(hk:args[k]? =some (.osw 0 z)):FC P G f [] (args.set k .esl) rv os:=by
 refine⟨h.1,h.2.1,fun S0 ι0 w0 vs h0 hG hob hι hL=>?_⟩
 let ι1:Imap:=fun o=>if o=0 then some none else ι0 o
 have hle:ι0.le ι1:=fun o x e=>by
  simp_all
 have hOw:OwOf w0 ι1 [(0,.rows true [])]=OwOf w0 ι0 []:=by
  funext b
  apply propext;constructor
  ·rintro(h|⟨o,x,l,h1,h2,h3,h4⟩)
   ·exact .inl h
   grind
  ·rintro(h|⟨o,x,l,h1,_⟩)
   ·exact .inl h
   simp_all
 have hkl:=Zap hk
 refine(h.2.2 S0 ι1 w0 vs h0 hG ?_ ?_ ⟨by rw[←hL.1];simp,fun j x v hx hv=>?_⟩).mono ?_
 ·rw[hOw]
  refine⟨fun o x hx=>?_,fun o x hx hl l e=>?_,fun o o' x x' hx hx' hl hl' l l' e=>?_⟩
  ·by_cases q:o=0
   ·subst q
    simp only[lk,Yh,Y1]at hx;subst hx
    exact .inl ⟨by rfl,rfl⟩
   ·simp[lk,q]at hx
  all_goals grind
 ·grind
 ·by_cases q:j=k
  ·subst q
   rw[hk]at hx;injection hx with hx;subst hx
   have:=hL.2 j .esl v (by simp_all) hv
   cases this with
   |imm _ _ h=>cases h with|esl a=>exact .oswv 0 z a (by rfl)
  ·exact(hL.2 j x v (by grind) hv).mono (fun _ h=>h) (fun _ _=>rfl) hle
 ·rintro e w' ⟨v,S',ι',rfl,q1,q2,q3,q4,q5,q6,q7⟩
  rw[hOw]at q1 q2 q7
  exact⟨v,S',ι',rfl,q1,q2,q3,fun o x e=>q4 o x (hle o x e),q5,q6,q7⟩
structure Gv where
 ml:Int
 e0:Value
 e1:Value
 h0:e0=.nilIface∨∃te pe,e0=.iface te pe
 h1:e1=.nilIface∨∃te pe,e1=.iface te pe
def sortI(l:List Int):List Int:=l.mergeSort fun x y=>decide (x≤y)
def sortS(l:List (List UInt8)):List (List UInt8):=l.mergeSort fun x y=>decide (x≤y)
def logS:List UInt8:=[108,111,103,45]
def ZbZ(s:List UInt8):Int:=
 match Lib.atoiAll (Lib.trimPrefix s logS)with
 |.ok n=>if Lib.hasPrefix s logS=true∧(Lib.trimPrefix s logS).length≤9∧1≤n∧Lib.itoa n=Lib.trimPrefix s logS then n else 0
 |_=>0
set_option maxRecDepth 100000
theorem Zhr{x:Int}(h1: -9223372036854775808≤x)(h2:x≤9223372036854775807):IntKind.wrap IntKind.i64 x=x:=by
 rw[YG];omega
def crow(d m s:Int)(tab:List Int):List AV:=.int .u32 d::.int .i32 m::.int .u32 s::tab.map (fun n=>.int .u32 n)
def stepC(c:Int):Int:=ibits BinOp.xor IntKind.u32 (c.fdiv (2^min (Int.toNat 1) IntKind.u32.bits)) (IntKind.u32.wrap (3988292384*ibits BinOp.and IntKind.u32 c 1))
def iterC:Nat→Int→Int
 |0,c=>c
 |k+1,c=>iterC k (stepC c)
def tabK(tab:List Int):Nat→List Int
 |0=>tab
 |k+1=>(tabK tab k).set k (iterC 8 (IntKind.u32.wrap (k:Int)))
theorem ZjE(tab:List Int):∀k,(tabK tab k).length=tab.length
 |0=>rfl
 |k+1=>by simp[tabK,ZjE tab k]
theorem ZnV(d m s:Int)(tab:List Int):(crow d m s tab).length=tab.length+3:=by simp[crow]
theorem Zrq(d m s:Int)(tab:List Int)(k:Nat)(v:Int)(h:k<tab.length):setAt (crow d m s tab) (3+k) [.int .u32 v]=crow d m s (tab.set k v):=by
 have h1:setAt (crow d m s tab) (3+k) [.int .u32 v]=(crow d m s tab).set (3+k) (.int .u32 v):=by
  unfold setAt
  rw[List.set_eq_take_append_cons_drop,if_pos (by rw[ZnV];omega)]
  rfl
 rw[h1,Nat.add_comm];simp[crow,YW]
def tab0:List Int:=List.replicate 256 0
def Zen:List Int:=tabK tab0 256
def c0:Int:=ibits BinOp.xor IntKind.u32 (if IntKind.u32.signed=true then -1 else IntKind.u32.max) 0
def ixC(c x:Int):Int:=ibits .xor .u8 (IntKind.u8.wrap c) x
theorem ZpN(c x:Int):0≤ixC c x∧ixC c x<256:=by
 unfold ixC ibits;rw[WC];omega
theorem ZlF{d m s:Int}(ix:Int)(h:ix<256):(crow d m s Zen)[0+3+ix.toNat*1]? =some (.int .u32 (Zen.getD ix.toNat 0)):=by
 have hl:Zen.length=256:=by unfold Zen;rw[ZjE];simp[tab0]
 rw[show 0+3+ix.toNat*1=ix.toNat+3 by omega]
 simp only[crow,List.getElem?_cons_succ,Yl,W4]
 simp_all
def moreC(c:Int):List Int→Int
 | []=>c
 |x::r=>moreC (ibits .xor .u32 (c.fdiv (2^min (Int.toNat 8) IntKind.u32.bits)) (Zen.getD (ixC c x).toNat 0)) r
def cN(s:Int):Int:=ibits BinOp.xor IntKind.u32 (if IntKind.u32.signed=true then -1 else IntKind.u32.max) s
def crcM(s:Int)(b:List Int):Int:=ibits BinOp.xor IntKind.u32 (if IntKind.u32.signed=true then -1 else IntKind.u32.max) (moreC (cN s) b)
def crowB(b:Bool):List AV:=bif b then crow 1 0 0 Zen else crow 0 0 0 tab0
def crcS(b:List Int):Int:=ibits BinOp.xor IntKind.u32 (if IntKind.u32.signed=true then -1 else IntKind.u32.max) (moreC c0 b)
open Go.Sort (Holds putRow grow)
theorem Zl8{Ow S S':Nat→Prop}{w w':World}{ι:Imap}{os:Nat→Option AO}(h:Zei Ow S w ι os)(hs0:∀b,S b→b<w.heap.size)(hk:Keeps w w')(hs:∀b,S b→S' b)
 (hs':∀b,S' b→S b∨w.heap.size≤b):Zei Ow S' w' ι os:=by
 have hf:∀o x,os o=some x→x.live=true→∀l,ι o=some (some l)→∀b,foot w' x l b→foot w x l b:=fun o x hx hl l e b hb=>Zao (fun b hb=>hk.old b (h.own o x hx hl l e b hb).2.2) hb
 refine⟨fun o x hx=>(h.ob o x hx).mono hs (fun b hb=>hk.old b (hs0 b hb)) (Imap.le_refl _) (fun l hl hlv b hb=>hk.old b (h.own o x hx hlv l hl b hb).2.2),fun o x hx hl l e b hb=>?_,fun o o' x x' hx hx' hl hl' l l' e e' b hb hb'=>?_⟩
 ·obtain⟨h1,h2,h3⟩:=h.own o x hx hl l e b (hf o x hx hl l e b hb)
  refine⟨h1,fun q=>?_,Wp h3 hk.size⟩
  grind
 ·exact h.inj o o' x x' hx hx' hl hl' l l' e e' b (hf o x hx hl l e b hb) (hf o' x' hx' hl' l' e' b hb')
theorem Zry{P:Program}{G:Gmap}{f:Nat}{oin:Os}{args:List AV}{xs:List (List UInt8)}(hn:callB P f=true)(hl:xs.length≤LIM)(hoin:(oin.all fun e=>decide (e.1<W))=true)(hoW:oin.length≤W)
 (h:∀(Ow S:Nat→Prop) (ι:Imap) (w:World) (vs:Array Value),(∀b,S b→b<w.heap.size)→GOk G S w→Zei Ow S w ι (lk oin)→RepL S w ι args vs.toList→
  Calls P f vs w fun e w'=>Keeps w w'∧((xs=[]∧∃a,e=.returned (.slice a 0 0))∨∃b o cap,e=.returned (.slice (some ⟨b,o,none⟩) xs.length cap)∧xs.length≤cap∧w.heap.size≤b∧b<w'.heap.size∧
   ∀(i:Nat) s,xs[i]? =some s→w'.cell? ⟨b,o+i,none⟩=some (.string (bs s)))):FC P G f oin args (.sl (xs.map cStr)) oin:=by
 refine⟨hn,fun o x hx=>?_,fun S0 ι0 w0 vs h0 hG hob hι hL=>?_⟩
 ·have:=YF.1 hoin _ (ZiL hx)
  simp_all
 refine(h _ S0 ι0 w0 vs h0 hG hob hL).mono ?_
 rintro e w' ⟨hk,h⟩
 rcases h with ⟨rfl,a,rfl⟩|⟨b,o,cap,rfl,hcap,hb1,hb2,hc⟩
 ·refine⟨_,S0,ι0,rfl,hk.fr _,fun b hb=>⟨.inl hb,Wp (h0 b hb) hk.size⟩,fun b hb=>hb,Imap.le_refl _,fun o ho=>hι o (YV hoW ho),.imm _ _ ?_,Zl8 hob h0 hk (fun b hb=>hb) (fun b hb=>.inl hb)⟩
  cases a with
  |none=>exact .snil
  |some a=>exact .sl [] a 0 0 (fun _=>[]) (Yg _) (by simp) (fun h=>absurd rfl h) (fun i r hr=>by simp at hr) (fun i j v hi=>by simp) (fun i j r x v hr=>by simp)
 ·refine⟨_,fun k=>S0 k∨k=b,ι0,rfl,hk.fr _,fun k hb=>?_,fun k hb=>.inl hb,Imap.le_refl _,fun o ho=>hι o (YV hoW ho),.imm _ _ ?_,
   Zl8 hob h0 hk (fun b hb=>.inl hb) (fun k hb=>hb.elim .inl (fun e=>.inr (e▸hb1)))⟩
  ·rcases hb with hb|rfl
   ·grind
   ·exact⟨Or.inr (Or.inl hb1),hb2⟩
  ·have e:xs.length=(xs.map cStr).length:=by simp
   rw[e]
   refine .sl (xs.map cStr) ⟨b,o,none⟩ cap 1 (fun i=>[.string (bs (xs.getD i []))]) (by omega) (by omega) (fun _=>⟨.inr rfl,rfl⟩) (fun i r hr=>?_) (fun i j v hi hv=>?_) (fun i j r x v hr hx hv=>?_)
   ·rw[Yl,Ye]at hr
    obtain⟨s,_,rfl⟩:=hr
    simp
   ·have hi:i<xs.length:=by simpa using hi
    cases j with
    |succ j=>simp at hv
    |zero=>
     simp only[List.getElem?_cons_zero,Y1]at hv
     subst hv
     have q:=hc i xs[i] (by simp)
     have e2:xs.getD i []=xs[i]:=by simp[W4,hi]
     refine⟨?_,rfl⟩
     grind
   ·rw[Yl,Ye]at hr
    obtain⟨s,hs,rfl⟩:=hr
    cases j with
    |succ j=>simp at hv
    |zero=>
     simp only[List.getElem?_cons_zero,Y1]at hv hx
     subst hv
     simp only[cStr,List.getElem?_cons_zero,Y1]at hx
     subst hx
     rw[W4,hs]
     exact .str (bs s)
theorem ZoY(l:List Int):(sortI l).length=l.length:=by simp[sortI]
theorem Zrz{P:Program}{G:Gmap}{f:Nat}(hn:callB P f=true)
 (c:∀(blk off cap:Nat) (zs:List Int) (w:World),Holds (Value.int .i64) w blk off zs.toArray→blk<w.heap.size→zs.length<4611686018427387904→
  Calls P f #[.slice (some ⟨blk,off,none⟩) zs.length cap] w fun e w'=>e=.returned (.tuple #[])∧∃n os,w'=grow (putRow (Value.int .i64) (Sort.ahead w n) blk off (zs.mergeSort fun x y=>decide (x≤y)).toArray) os)
 (c0:∀(p:Option Addr) (cap:Nat) (w:World),Calls P f #[.slice p 0 cap] w fun e w'=>e=.returned (.tuple #[])∧w'=w)
 (l:List Int) (hl:l.length≤LIM):FC P G f [(0,.rows true (List.map (cInt .i64) l))] [.osw 0 1] (.tup []) [(0,.rows true (List.map (cInt .i64) (sortI l)))]:=by
 refine⟨hn,fun o x hx=>?_,fun S0 ι0 w0 vs h0 hG hob hι hL=>?_⟩
 ·by_cases e:o=0
  ·subst e;unfold W;omega
  ·simp[lk,e]at hx
 obtain⟨v,rfl,hv⟩:=args1 hL
 have hW:∀o,W≤o→ι0 o=none:=fun o ho=>hι o (by unfold W at ho;grind)
 have he:∀(a:Option Addr) (cap:Nat),l=[]→v=.slice a 0 cap→Calls P f #[v] w0 fun e w'=>∃v S' ι',e=.returned v∧Fr (OwOf w0 ι0 [(0,AO.rows true (List.map (cInt .i64) l))]) w0 w'∧
  (∀b,S' b→(S0 b∨OwOf w0 ι0 [(0,AO.rows true (List.map (cInt .i64) l))] b)∧b<w'.heap.size)∧(∀b,S0 b→S' b)∧ι0.le ι'∧(∀o,W≤o→ι' o=none)∧
  Rep S' w' ι' (.tup []) v∧Zei (OwOf w0 ι0 [(0,AO.rows true (List.map (cInt .i64) l))]) S' w' ι' (lk [(0,AO.rows true (List.map (cInt .i64) (sortI l)))]):=by
  rintro a cap rfl rfl
  refine(c0 a cap w0).mono ?_
  rintro e w' ⟨rfl,rfl⟩
  exact⟨_,S0,ι0,rfl,⟨rfl,rfl,Yg _,fun _ _ _=>rfl⟩,fun b hb=>⟨.inl hb,h0 b hb⟩,fun b hb=>hb,Imap.le_refl _,hW,.tup [] #[] rfl (fun j x v h=>by simp at h),by rw[show sortI []=[] by simp[sortI]];exact hob⟩
 have hob0:=hob.ob 0 _ rfl
 rcases hob0 with ⟨q,hr⟩|⟨L,vals,q,hcnt,hm,hat,hrep⟩
 ·have hl0:l=[]:=by simpa using hr
  rcases ZcP hv with ⟨l',ab,cap,q',_⟩|⟨q',ab,hvv⟩
  all_goals simp_all
 rcases ZcP hv with ⟨l',ab,cap,q',hvv,g1,g2,g3,gz,ga⟩|⟨q',ab,hvv⟩
 rotate_left
 ·simp_all
 rw[q]at q';injection q' with q';injection q' with q';subst q'
 rw[Ya]at hcnt
 by_cases hl0:l=[]
 ·simp_all
 have hpos:0<l.length:=WN.2 hl0
 have hcap:cap≠0:=by omega
 obtain rfl:=ga hcap
 have hvals:∀(i:Nat) z,l[i]? =some z→vals i=[.int .i64 z]:=by
  intro i z hz
  have:=hrep i [.int .i64 z] (by simp_all)
  simp only[Yh]at this
  obtain⟨hlen,hr⟩:=this
  match hvi:vals i,hlen with
  | [u],_=>
   have:=hr 0 _ u rfl (by grind)
   cases this;rfl
 have hesz:L.esz=1:=by
  obtain⟨z,hz⟩:∃z,l[0]? =some z:=⟨_,Y3 hpos⟩
  have:=hat.2.1 0 (by simp_all)
  rw[hvals 0 z hz]at this;exact this.symm
 have hsz:L.base+l.length≤L.size:=by
  have:=hat.1
  rw[Ya,hesz,Nat.mul_one]at this;exact this
 have hown:=hob.own 0 _ rfl rfl L q _ (.inl rfl)
 have hH:Holds (Value.int .i64) w0 L.blk L.base l.toArray:=by
  intro j hj
  have hj':j<l.length:=by simpa using hj
  have h1:=hat.2.2 j 0 (.int .i64 l[j]) (by simp_all) (by simp_all)
  rw[hesz,Nat.mul_one,Nat.add_zero]at h1
  refine⟨?_,(hm (L.base+j)).2 (.inl (by omega))⟩
  rw[show l.toArray[j]! =l[j] by simp_all]
  exact h1.1
 rw[hvv,←hcnt];unfold LIM at hl
 refine(c L.blk L.base cap l w0 hH hown.2.2 (by omega)).mono ?_
 rintro e w' ⟨rfl,n,os,rfl⟩
 rw[show(l.mergeSort fun x y=>decide (x≤y))=sortI l from rfl]
 have hs:=ZoY l
 have hahead:∀b:Nat,(Sort.ahead w0 n).heap[b]? =w0.heap[b]? :=fun b=>rfl
 have hblk:L.blk<(putRow (Value.int .i64) (Sort.ahead w0 n) L.blk L.base (sortI l).toArray).heap.size:=by rw[Sort.size_putRow];exact hown.2.2
 have hH2:Holds (Value.int .i64) (Sort.ahead w0 n) L.blk L.base l.toArray:=hH
 have hold:∀b,b<w0.heap.size→b≠L.blk→(grow (putRow (Value.int .i64) (Sort.ahead w0 n) L.blk L.base (sortI l).toArray) os).heap[b]? =w0.heap[b]? :=fun b hb hne=>by
  rw[Sort.heap_grow_old _ _ (by simp_all)]
  unfold putRow Sort.mapBlock
  grind
 have hin:∀(j:Nat) z,(sortI l)[j]? =some z→Zbo (grow (putRow (Value.int .i64) (Sort.ahead w0 n) L.blk L.base (sortI l).toArray) os) L.blk (L.base+j)=some (.int .i64 z):=fun j z hz=>by
  have hj:=Zap hz
  show World.cell? _ _=_
  rw[Sort.cell?_grow _ _ _ hblk,Sort.cell?_putRow _ _ _ _ l.toArray _ hH2 (by simp[hs]) j (by omega)]
  simp_all
 have hout:∀j:Nat,¬(L.base≤j∧j<L.base+l.length)→Zbo (grow (putRow (Value.int .i64) (Sort.ahead w0 n) L.blk L.base (sortI l).toArray) os) L.blk j=Zbo w0 L.blk j:=fun j hj=>by
  show World.cell? _ _=_
  rw[Sort.cell?_grow _ _ _ hblk,Sort.cell?_putRow_other _ _ _ _ _ _ (by grind)]
  rfl
 refine⟨_,S0,ι0,rfl,⟨rfl,rfl,by simp,fun b hb hn=>hold b hb (fun e=>hn (e▸hown.1))⟩,fun b hb=>⟨.inl hb,by grind⟩,fun b hb=>hb,Imap.le_refl _,hW,
  .tup [] #[] rfl (fun j x v h=>by simp at h),⟨fun o x hx=>?_,fun o x hx hl' l' e b hb=>?_,fun o o' x x' hx hx' _ _ l1 l2 e1 e2 b _ _=>?_⟩⟩
 ·by_cases e:o=0
  ·subst e
   simp only[lk,Yh,Y1]at hx;subst hx
   refine .inr ⟨L,fun i=>[.int .i64 ((sortI l).getD i 0)],q,by simp_all,fun j=>⟨fun hj=>?_,fun hj=>?_⟩,⟨by simp_all,fun i hi=>hesz.symm,fun i j v hi hv=>?_⟩,fun i r hr=>?_⟩
   ·by_cases h9:L.base≤j∧j<L.base+l.length
    ·obtain⟨z,hz⟩:∃z,(sortI l)[j-L.base]? =some z:=⟨_,Y3 (by omega)⟩
     grind
    ·rw[hout j h9];exact(hm j).1 hj
   ·rw[Sort.frozen?_grow _ _ _ hblk,Sort.frozen?_putRow]
    exact(hm j).2 hj
   ·rw[Ya,hs]at hi
    cases j with
    |succ j=>simp at hv
    |zero=>
     simp only[List.getElem?_cons_zero,Y1]at hv
     subst hv;rw[hesz,Nat.mul_one,Nat.add_zero]
     have hz:=Y3 (l:=sortI l) (i:=i) (by omega)
     refine⟨?_,rfl⟩
     grind
   ·rw[Yl,Ye]at hr
    obtain⟨z,hz,rfl⟩:=hr
    simp only[Yh]
    refine⟨rfl,fun j x v hx hv=>?_⟩
    cases j with
    |succ j=>simp at hv
    |zero=>
     simp only[List.getElem?_cons_zero,Y1]at hv
     simp only[cInt,List.getElem?_cons_zero,Y1]at hx
     subst hv;subst hx
     rw[W4,hz]
     exact .int _ _
  ·simp[lk,e]at hx
 ·by_cases e0:o=0
  ·subst e0
   simp only[lk,Yh,Y1]at hx;subst hx
   rw[q]at e;injection e with e;injection e with e;subst e
   have:=Za7 rfl hb
   subst this
   exact⟨hown.1,hown.2.1,by rw[Sort.size_grow,Sort.size_putRow];exact Wp hown.2.2 (Wl _ _)⟩
  grind
 grind
theorem ZrC{P:Program}{G:Gmap}{S:Nat→Prop}{w:World}(hG:GOk G S w){g:Nat}{k:IntKind}{zs:List Int}(hg:G g=some (zs.map fun n=>AV.int k n)){name:String}(hname:P.globalNamed name=some g):Lib.TabIs P w name k zs:=by
 obtain⟨_,cs,t,fr,e,es⟩:=hG g _ hg
 unfold Lib.TabIs World.var?;rw[hname];simp only[Y0,e,Y1];apply Array.ext_getElem?;intro i
 rw[show((zs.map fun z=>Value.int k z).toArray)[i]? =(zs.map fun z=>Value.int k z)[i]? by simp,Yl]
 by_cases hi:i<zs.length
 ·have h1:=hG.cell hg (j:=i) (k:=k) (n:=zs[i]) (by simp)
  simp only[World.cell?,e]at h1;simp_all
 simp_all
theorem ZsV{P:Program}{G:Gmap}{f g:Nat}(hn:callB P f=true)(hg:G g=some (Lib.pow10Tab.map fun(n:Int)=>AV.int .u64 n))(hname:P.globalNamed "internal/strconv.uint64pow10" =some g)
 (c:∀(n:Int), -9223372036854775808≤n→n≤9223372036854775807→∀w:World,Lib.TabIs P w "internal/strconv.uint64pow10" .u64 Lib.pow10Tab→
  Calls P f #[.int .i64 n] w fun e w'=>e=.returned (.string ⟨(Lib.itoa n).toArray⟩)∧∃k os,w'=grow (w.drewN k) os)
 (n:Int) (h0: -9223372036854775808≤n) (h1:n≤9223372036854775807):FC P G f [] [.int .i64 n] (.str (Lib.itoa n)) []:=by
 refine ZrS hn fun S ι w vs _ hG hL=>?_
 obtain⟨u,rfl,h2⟩:=args1 hL
 obtain rfl:=h2.int_inv
 refine(c n h0 h1 w (ZrC hG hg hname)).mono ?_
 rintro e w' ⟨rfl,k,os,rfl⟩
 exact⟨_,rfl,⟨rfl,rfl,by simp,fun b hb=>(Sort.heap_grow_old (w.drewN k) os hb).trans rfl⟩,fun S w=>Zsv _⟩
theorem Zoh{w:World}{b:Nat}{o:Obj}(h:w.heap[b]? =some o):b<w.heap.size:=(Wm.1 h).1
theorem ZqM{P:Program}{w w':World}{name:String}{k:IntKind}{zs:List Int}(hk:Keeps w w')(h:Lib.TabIs P w name k zs):Lib.TabIs P w' name k zs:=by
 unfold Lib.TabIs World.var? at h⊢
 cases hg:P.globalNamed name with
 |none=>simp_all
 |some g=>
  rw[hg]at h;simp only[Y0]at h⊢;split at h
  ·rename_i cs t fr e
   rw[hk.old g (Zoh e),e];exact h
  ·cases h
theorem Keeps.trans{a b c:World}(h:Keeps a b)(h':Keeps b c):Keeps a c:=
 ⟨h'.os.trans h.os,h'.output.trans h.output,YV h.size h'.size,fun k hk=>(h'.old k (Wp hk h.size)).trans (h.old k hk)⟩
theorem ZqG(s p:List UInt8):(Lib.trimPrefix s p).length≤s.length:=by
 unfold Lib.trimPrefix
 grind
theorem GOk.con{G:Gmap}{S:Nat→Prop}{w:World}(h:GOk G S w){g:Nat}{v:Value}(hg:G g=some [.con v]):w.cell? ⟨g,0,none⟩=some v:=by
 have:=(h g _ hg).1
 generalize hp:Value.pointer (some ⟨g,0,none⟩)=u at this
 cases this with
 |rp row off blk base vals hS hl hcell hr=>
  injection hp with hp
  injection hp with hp
  injection hp with h1 h2 h3
  subst h1
  have hb:base=0:=by omega
  subst hb
  obtain⟨x,hx⟩:∃x,vals[0]? =some x:=⟨_,Y3 (by grind)⟩
  have q1:=hr 0 _ x rfl hx
  have q2:=(hcell 0 x hx).1
  cases q1;omega
structure Ztp(p:Bool)(d:List UInt8)(v:Int)(Ans:Int→Prop):Prop where
 no:¬(p=true∧d.length≤9∧1≤v∧Lib.itoa v=d)→Ans 0
 yes:p=true→d.length≤9→1≤v→Lib.itoa v=d→Ans v
end Go.Ab
