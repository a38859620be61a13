import Derived.Test.YtjpmdkgonlmddaaGreatDoorAbA
import Derived.Laws.Cover1
set_option linter.unusedVariables false
namespace Go.Ab
section
variable {t:TypeId}{x:AV}
def dS(P:Program)(t:TypeId):Option (Bool×Nat):=
 match P.underlying t with
 |none=>none
 |some d=>match P.info? t with
  |none=>none
  |some i=>some (match d with|.struct _=>true|.array .. =>true|_=>false,i.size)
theorem sy{P:Program}{i:TypeInfo}(h:P.info? t=some i)(w:World):(sizeOf t).run P w=.ok i.size w:=by
 simp[sizeOf,typeInfo,h]
theorem qQ{P:Program}{b:Bool}{n:Nat}(h:dS P t=some (b,n))(w:World):
 (isAgg t).run P w=.ok b w∧(sizeOf t).run P w=.ok n w:=by
 unfold dS at h;split at h
 ·cases h
 ·rename_i d hd;split at h
  ·cases h
  ·rename_i i j;simp only[Y5,WV]at h;obtain⟨h1,rfl⟩:=h;refine⟨?_,sy j w⟩;unfold isAgg;simp only[Yc,Yb hd,Y6];subst h1;cases d<;>rfl
def BZ(P:Program)(s:TypeId)(f:Nat):Option Field:=
 match P.underlying s with
 |some (.struct fs)=>fs[f]?
 |_=>none
def ot(P:Program)(t:TypeId)(row:List AV)(c:Nat):Option AV:=
 match dS P t with
 |some (true,n)=>if c+n≤row.length then some (.agg ((row.drop c).take n))else none
 |some (false,_)=>row[c]?
 |none=>none
def Et:Value→AV
 |.int k n=>.int k n
 |.bool b=>.bool b
 |.string s=>.str s.data.toList
 |.slice none 0 0=>.dK
 |.pointer none=>.eT (.pointer none)
 |.map none=>.eT (.map none)
 |.nilFunc=>.eT .nilFunc
 |.nilIface=>.eT .nilIface
 |_=>.undef
def mV:Value→AV
 |.agg cs=>.agg (cs.toList.map Et)
 |v=>Et v
theorem ON{S:Nat→Prop}{w:World}(v:Value):cE S w (Et v) v:=by
 unfold Et;split<;>first|exact .int _ _|exact .bool _|exact .str _|exact .dK _|exact .eT _ rfl|exact .undef _
theorem uP{S:Nat→Prop}{w:World}(v:Value):cE S w (mV v) v:=by
 unfold mV;split
 ·rename_i cs;refine .agg _ cs (by simp) (λ j x v i o=>?_)
  rw[YD]at i;have:cs.toList[j]? =some v:=by simpa using o
  rw[this]at i;simp only[YE,Y5]at i;subst i;exact ON v
 ·exact ON _
def ig(G:eo)(g:Nat→AV):Operand→AV
 |.tmp t=>g t
 |.const v=>mV v
 |.global n=>match G n with|some row=>.rp row 0|none=>.undef
 |.func f=>bif Nat.blt f FB then .fn f []else .undef
theorem Inv.ev{C:Cx}{S:Nat→Prop}{ι:bp}{un:Nat→Prop}{f:FS}{a:Act}{w:World}
 (h:Inv C S ι un f a w) (x:Operand):cz S w ι (ig C.G f.g x) (a.eval x):=by
 cases x with
 |tmp t=>exact h.tm t
 |const v=>exact .cu _ _ (uP v)
 |global n=>
  simp only[ig,Act.eval];split
  ·rename_i row i;exact .cu _ _ (h.gv n row i).1
  ·exact .cu _ _ (.undef _)
 |func g=>
  simp only[ig,Act.eval];cases hg:Nat.blt g FB with
  |true=>
   simp only[Y4];have:=cE.fn (S:=S) (w:=w) g [] #[] rfl (λ j x v hx=>by simp)
   rw[xB hg]at this;exact .cu _ _ this
  |false=>exact .cu _ _ (.undef _)
def cC(op:BinOp)(k:IntKind)(x y:Int):Int:=
 k.wrap ((match op with
  |.and=>BitVec.ofInt k.bits x&&& BitVec.ofInt k.bits y
  |.or=>BitVec.ofInt k.bits x|||BitVec.ofInt k.bits y
  |.xor=>BitVec.ofInt k.bits x^^^BitVec.ofInt k.bits y
  |_=>BitVec.ofInt k.bits x&&& ~~~(BitVec.ofInt k.bits y):BitVec k.bits).toNat)
def AY(op:BinOp)(k:IntKind)(a b:Int):Option AV:=
 match op with
 |.add=>some (.int k (k.wrap (a+b)))
 |.sub=>some (.int k (k.wrap (a-b)))
 |.mul=>some (.int k (k.wrap (a*b)))
 |.and=>some (.int k (cC .and k a b))
 |.or=>some (.int k (cC .or k a b))
 |.xor=>some (.int k (cC .xor k a b))
 |.andNot=>some (.int k (cC .andNot k a b))
 |.eql=>some (.bool (a==b))
 |.neq=>some (.bool (a != b))
 |.lss=>some (.bool (decide (a<b)))
 |.leq=>some (.bool (decide (a≤b)))
 |.gtr=>some (.bool (decide (b<a)))
 |.geq=>some (.bool (decide (b≤a)))
 |_=>none
def AB(op:BinOp)(a b:aj):Option AV:=
 match op with
 |.eql=>some (.bool (a==b))
 |.neq=>some (.bool (!(a==b)))
 |.lss=>some (.bool (Op.bytesLess a b))
 |.leq=>some (.bool (Op.bytesLess a b||a==b))
 |.gtr=>some (.bool (!(Op.bytesLess a b||a==b)))
 |.geq=>some (.bool (!Op.bytesLess a b))
 |_=>none
def jA(rc:TypeId→List AV→List AV→Nat→Option Bool):List Field→List AV→List AV→Nat→Option Bool
 | [],_,_,_=>some true
 |f::r,xs,ys,c=>match rc f.type xs ys (c+f.offset),jA rc r xs ys c with
  |some a,some b=>some (a&&b)
  |_,_=>none
def lJ(P:Program):Nat→TypeId→List AV→List AV→Nat→Option Bool
 |0,_,_,_,_=>none
 |d+1,t,xs,ys,c=>
  match P.underlying t with
  |some (.int _)=>match xs[c]?,ys[c]? with|some (.int k a),some (.int k' b)=>if k=k' then some (a==b)else none|_,_=>none
  |some .string=>match xs[c]?,ys[c]? with|some (.str a),some (.str b)=>some (a==b)|_,_=>none
  |some .bool=>match xs[c]?,ys[c]? with|some (.bool a),some (.bool b)=>some (a==b)|_,_=>none
  |some (.struct fs)=>jA (lJ P d) fs.toList xs ys c
  |_=>none
def lK(P:Program):Nat→TypeId→Bool
 |0,_=>false
 |d+1,t=>
  match P.underlying t with
  |some (.struct fs)=>!P.stoodInHeld t&&(dS P t).isSome&&fs.all λ f=>f.name != "_" &&lK P d f.type&&decide (f.offset+P.cellsOf f.type≤P.cellsOf t)
  |some (.int _)|some .string|some .bool=>P.cellsOf t==1
  |_=>false
def bin(P:Program)(op:BinOp)(t:TypeId)(x y:AV):Option AV:=
 match x,y with
 |.int k a,.int k' b=>if k=k' then AY op k a b else none
 |.str a,.str b=>AB op a b
 |.bool a,.bool b=>match P.underlying t with
  |some .bool=>(match op with|.eql=>some (.bool (a==b))|.neq=>some (.bool (!(a==b)))|_=>none)
  |_=>none
 |.ptr ..,.eT (.pointer none)|.eT (.pointer none),.ptr .. |.rp ..,.eT (.pointer none)|.eT (.pointer none),.rp .. =>match P.underlying t with
  |some (.pointer _)=>(match op with|.eql=>some (.bool false)|.neq=>some (.bool true)|_=>none)
  |_=>none
 |.eT (.pointer none),.eT (.pointer none)=>match P.underlying t with
  |some (.pointer _)=>(match op with|.eql=>some (.bool true)|.neq=>some (.bool false)|_=>none)
  |_=>none
 |_,_=>none
def KX(op:UnOp)(x:AV):Option AV:=
 match op,x with
 |.neg,.int k n=>some (.int k (k.wrap (0-n)))
 |.xor,.int k n=>some (.int k (cC .xor k (if k.signed then -1 else k.max) n))
 |.not,.bool b=>some (.bool !b)
 |_,_=>none
def fZ(ev:Operand→AV)(place:Nat→Option (Nat×Nat)):List (Nat×Operand)→List AV→Option (List AV)
 | [],cs=>some cs
 |(i,x)::r,cs=>
  match place i,lv (ev x)with
  |some (off,n),some vs=>if vs.length=n∧off+n≤cs.length then fZ ev place r (setAt cs off vs)else none
  |_,_=>none
def iM(P:Program)(t:TypeId):Option (List AV):=
 match P.info? t with
 |none=>none
 |some i=>match i.zero with
  |some v=>lv (mV v)
  |none=>none
def Ex(P:Program)(fs:Array Field)(i:Nat):Option (Nat×Nat):=
 match fs[i]? with
 |some f=>match P.info? f.type with|some j=>some (f.offset,j.size)|none=>none
 |none=>none
def xF(P:Program)(ev:Operand→AV)(t:TypeId)(parts:Array (Nat×Operand)):Option AV:=
 match iM P t with
 |none=>none
 |some z=>match P.underlying t with
  |some (.struct fs)=>if(fs.toList.all λ f=>(P.info? f.type).isSome)=true then(fZ ev (Ex P fs) parts.toList z).map .agg else none
  |some (.array _ e)=>match P.info? e with
   |some j=>(fZ ev (λ i=>some (i*j.size,j.size)) parts.toList z).map .agg
   |none=>none
  |_=>none
def oQ(P:Program)(t:TypeId)(x:AV):Option AV:=
 match P.underlying t,x with
 |some .string,.str l=>some (.int .i64 l.length)
 |some (.slice _),.sl xs=>some (.int .i64 xs.length)
 |some (.slice _),.fp _ _ n _=>some (.int .i64 n)
 |some (.slice _),.dK=>some (.int .i64 0)
 |some (.array n _),_=>some (.int .i64 n)
 |_,_=>none
def fb(P:Program)(ev:Operand→AV):Op→Option AV
 |.move x=>some (ev x)
 |.assign x=>some (ev x)
 |.fieldAddr s x i=>match BZ P s i with
  |none=>none
  |some fd=>match dS P fd.type with
   |some (_,_+1)=>(match ev x with|.ptr o r c=>some (.ptr o r (c+fd.offset))|.rp row c=>some (.rp row (c+fd.offset))|_=>none)
   |_=>none
 |.field s x i=>match BZ P s i with
  |none=>none
  |some fd=>match ev x with|.agg cs=>ot P fd.type cs fd.offset|_=>none
 |.unOp op _ x=>KX op (ev x)
 |.binOp op t x y _=>bin P op t (ev x) (ev y)
 |.extract t i=>match ev t with|.cx vs=>vs[i]? |_=>none
 |.build t parts=>xF P ev t parts
 |.makeFunc (.func f) first cap=>bif first.isEmpty then(bif Nat.blt f FB then some (.fn f (cap.toList.map ev))else none)else(bif cap.isEmpty then some (.fn (FB+f) (first.toList.map ev))else none)
 |.nilCheck x=>match ev x with|.ptr o r c=>some (.ptr o r c)|.rp row c=>some (.rp row c)|.fn f c=>some (.fn f c)|_=>none
 |.convert s d x=>match P.underlying s,P.underlying d,ev x with
  |some _,some (.int k),.int _ n=>some (.int k (k.wrap n))
  |some _,some .string,.str l=>some (.str l)
  |_,_,_=>none
 |.call {callee:=.builtin .len,args,argTypes}=>match argTypes[0]?,args[0]? with
  |some t,some x=>oQ P t (ev x)
  |_,_=>none
 |.call {callee:=.builtin .max,args,..}=>match args.toList with
  | [x,y]=>(match ev x,ev y with
   |.int k a,.int _ b=>some (.int k (if b>a then b else a))
   |.str a,.str b=>some (.str (if !Op.bytesLess a b then a else b))
   |_,_=>none)
  |_=>none
 |.call {callee:=.builtin .min,args,..}=>match args.toList with
  | [x,y]=>(match ev x,ev y with
   |.int k a,.int _ b=>some (.int k (if b<a then b else a))
   |_,_=>none)
  | [x,y,z]=>(match ev x,ev y,ev z with
   |.int k a,.int _ b,.int _ c=>some (.int k (if c<(if b<a then b else a)then c else(if b<a then b else a)))
   |_,_,_=>none)
  |_=>none
 |_=>none
section
variable {S:Nat→Prop}{w:World}{ι:bp}{P:Program}
theorem bA.get{cs:List AV}{vs:List Value}(h:bA S w ι cs vs){j:Nat}(i:cs[j]? =some x):∃v,vs[j]? =some v∧cz S w ι x v:=by
 have hj:j<cs.length:=by
  rcases Wo j cs.length with h|h
  ·exact h
  ·simp_all
 have:j<vs.length:=by rw[←h.1];exact hj
 exact⟨vs[j],Y3 this,h.2 j x _ i (Y3 this)⟩
theorem bA.agg{cs:List AV}{vs:Array Value}(h:bA S w ι cs vs.toList):cz S w ι (.agg cs) (.agg vs):=
 .agg _ _ (by simpa using h.1) (λ j x v i hv=>h.2 j x v i (by simp_all))
theorem MF{cs:List AV}{vs:Array Value}(h:bA S w ι cs vs.toList){c:Nat}(i:ot P t cs c=some x):
 ∃v,(part t vs c).run P w=.ok v w∧cz S w ι x v:=by
 unfold ot at i;split at i
 ·rename_i n o;split at i
  ·rename_i hc;injection i with i;subst i;obtain⟨h1,p⟩:=qQ o w;refine⟨.agg (vs.extract c (c+n)),by unfold part;simp[h1,p],?_⟩
   have e:(vs.extract c (c+n)).toList=(vs.toList.drop c).take n:=by
    simp[Array.toList_extract,List.extract_eq_take_drop]
   have j:=(h.drop c).take n;rw[←e]at j;exact j.agg
  grind
 ·rename_i n o;obtain⟨h1,p⟩:=qQ o w;obtain⟨v,q,j⟩:=h.get i;refine⟨v,?_,j⟩;have:vs[c]? =some v:=by simpa using q
  unfold part;simp_all
 grind
theorem Nr(a b:aj):((⟨a.toArray⟩:ByteArray)==⟨b.toArray⟩)=(a==b):=by
 rw[beq_toListBytes];simp
theorem O9{e:TypeId}(i:P.underlying t=some (.pointer e))(d:Nat)(a b:Option Addr){r:Bool}
 (h:(match a,b with|none,b=>some b.isNone|_,none=>some false|_,_=>none)=some r):
 (Op.equalIn (d+1) t (.pointer a) (.pointer b)).run P w=.ok r w:=by
 cases a<;>cases b<;>simp only[Y5,reduceCtorEq]at h<;>subst h<;>simp[Op.equalIn,Yb i]
theorem B5{e:TypeId}(i:P.underlying t=some (.pointer e))(a b:Option Addr){r:Bool}(h:(match a,b with|none,b=>some b.isNone|_,none=>some false|_,_=>none)=some r):
 (binOp .eql t (.pointer a) (.pointer b)).run P w=.ok (.bool r) w:=by
 have:=O9 (w:=w) i 9999 a b h;have j:(Op.equal t (.pointer a) (.pointer b)).run P w=.ok r w:=this;simp only[binOp];simp[j]
theorem B6{e:TypeId}(i:P.underlying t=some (.pointer e))(a b:Option Addr){r:Bool}(h:(match a,b with|none,b=>some b.isNone|_,none=>some false|_,_=>none)=some r):
 (binOp .neq t (.pointer a) (.pointer b)).run P w=.ok (.bool !r) w:=by
 have:=O9 (w:=w) i 9999 a b h;have j:(Op.equal t (.pointer a) (.pointer b)).run P w=.ok r w:=this;simp only[binOp];simp[j]
theorem Uq{op:BinOp}{y v:AV}{x' q:Value}(h:bin P op t x y=some v)(j:cz S w ι x x')(o:cz S w ι y q)(z u:Operand):
 ∃v',(do eqGuard op t z u x' q;binOp op t x' q:Sem Value).run P w=.ok v' w∧cz S w ι v v':=by
 unfold bin at h;split at h
 ·
  rw[j.bU,o.bU];rename_i k a k' b;split at h
  ·rename_i e;subst e;simp only[eqGuard_at_int,Yc,Yd,Y6];unfold AY at h;cases op<;>simp only[Y5,reduceCtorEq]at h<;>subst h
   all_goals first
    |(refine⟨_,?_,.cu _ _ (.int _ _)⟩;simp only[binOp_add,binOp_sub,binOp_mul,Op.intArith,Yd];done)
    |(refine⟨_,?_,.cu _ _ (.int _ _)⟩;simp only[binOp_and,binOp_or,binOp_xor,binOp_andNot,Op.intBits,cC,Yd];done)
    |(refine⟨_,?_,.cu _ _ (.bool _)⟩;simp only[binOp_eql,binOp_neq,binOp_lss,binOp_leq,binOp_gtr,binOp_geq,Yd];done)
    |(refine⟨_,?_,.cu _ _ (.bool _)⟩;simp only[binOp_eql,binOp_neq,binOp_lss,binOp_leq,binOp_gtr,binOp_geq,Yd];rfl)
  ·cases h
 ·
  rw[j.dk,o.dk];rename_i a b;simp only[eqGuard_at_string,Yc,Yd,Y6];unfold AB at h;cases op<;>simp only[Y5,reduceCtorEq]at h<;>subst h
  all_goals (refine⟨_,?_,.cu _ _ (.bool _)⟩;simp[binOp,Op.stringOp])
 ·
  rw[j.dJ,o.dJ];split at h
  ·rename_i i;simp only[eqGuard_at_bool,Yc,Yd,Y6];split at h
   ·injection h with h;subst h;exact⟨_,run_eql_bool w t _ _ i,.cu _ _ (.bool _)⟩
   ·injection h with h;subst h;exact⟨_,run_neq_bool w t _ _ i,.cu _ _ (.bool _)⟩
   ·cases h
  ·cases h
 ·
  obtain⟨l,_,rfl⟩:=j.dF;rw[o.ik];split at h
  ·rename_i e i;simp only[Vv,Yc,Yd,Y6];split at h
   ·injection h with h;subst h;exact⟨_,B5 i _ _ rfl,.cu _ _ (.bool _)⟩
   ·injection h with h;subst h;exact⟨_,B6 i _ _ rfl,.cu _ _ (.bool _)⟩
   ·cases h
  ·cases h
 ·obtain⟨l,_,rfl⟩:=o.dF;rw[j.ik];split at h
  ·rename_i e i;simp only[Vv,Yc,Yd,Y6];split at h
   ·injection h with h;subst h;exact⟨_,B5 i _ _ rfl,.cu _ _ (.bool _)⟩
   ·injection h with h;subst h;exact⟨_,B6 i _ _ rfl,.cu _ _ (.bool _)⟩
   ·cases h
  ·cases h
 ·have:∃p,x'=.pointer (some p):=by cases j with|cu _ _ h=>cases h;simp
  obtain⟨p,rfl⟩:=this;rw[o.ik];split at h
  ·rename_i e i;simp only[Vv,Yc,Yd,Y6];split at h
   ·injection h with h;subst h;exact⟨_,B5 i _ _ rfl,.cu _ _ (.bool _)⟩
   ·injection h with h;subst h;exact⟨_,B6 i _ _ rfl,.cu _ _ (.bool _)⟩
   ·cases h
  ·cases h
 ·have:∃p,q=.pointer (some p):=by cases o with|cu _ _ h=>cases h;simp
  obtain⟨p,rfl⟩:=this;rw[j.ik];split at h
  ·rename_i e i;simp only[Vv,Yc,Yd,Y6];split at h
   ·injection h with h;subst h;exact⟨_,B5 i _ _ rfl,.cu _ _ (.bool _)⟩
   ·injection h with h;subst h;exact⟨_,B6 i _ _ rfl,.cu _ _ (.bool _)⟩
   ·cases h
  ·cases h
 ·rw[j.ik,o.ik];split at h
  ·rename_i e i;simp only[Vv,Yc,Yd,Y6];split at h
   ·injection h with h;subst h;exact⟨_,B5 i _ _ rfl,.cu _ _ (.bool _)⟩
   ·injection h with h;subst h;exact⟨_,B6 i _ _ rfl,.cu _ _ (.bool _)⟩
   ·cases h
  ·cases h
 ·cases h
theorem Xx(off:Nat):∀(vs:List Value) (k:Nat) (cells:Array Value),off+k+vs.length≤cells.size→
 ((vs.zipIdx k).foldl (λ cs (x:Value×Nat)=>cs.setIfInBounds (off+x.2) x.1) cells).toList=setAt cells.toList (off+k) vs:=by
 intro vs;induction vs with
 |nil=>
  intro k cells h;simp only[List.zipIdx_nil,Vm,setAt,YQ,Yx,WC];simp
 |cons v r ih=>
  intro k cells h;simp only[Yh]at h;simp only[List.zipIdx_cons,Vw];rw[ih (k+1) _ (by grind)]
  apply U3;intro j;rw[xV _ _ _ (by grind),xV _ _ _ (by omega)]
  grind
theorem EG{ev:Operand→AV}{ρ:Operand→Value}(B:∀x,cz S w ι (ev x) (ρ x))(place:Nat→Option (Nat×Nat)):
 ∀(parts:List (Nat×Operand)) (cs:List AV) (cells:Array Value) (out:List AV),bA S w ι cs cells.toList→fZ ev place parts cs=some out→
  ∃j,Instr.fill place cells (parts.map λ x=>(x.1,ρ x.2))=some j∧bA S w ι out j.toList:=by
 intro parts;induction parts with
 |nil=>
  intro cs cells out z h;simp only[fZ,Y5]at h;subst h;exact⟨cells,rfl,z⟩
 |cons p r ih=>
  intro cs cells out z h;obtain⟨i,x⟩:=p;simp only[fZ]at h;split at h
  ·rename_i off n vs C H;split at h
   ·rename_i q;obtain⟨y,_⟩:=zL H (B x);have F:=y.1;have J:=z.1;have A:(ρ x).cells.size=n:=by rw[←WA,←F];exact q.1
    have o:=Xx off (ρ x).cells.toList 0 cells (by simp_all)
    have u:bA S w ι (setAt cs off vs) ((ρ x).cells.zipIdx.foldl (λ cs (x:Value×Nat)=>cs.setIfInBounds (off+x.2) x.1) cells).toList:=by
     rw[←Array.foldl_toList,Array.toList_zipIdx,o];exact bA.setAt off z y (by omega)
    obtain⟨j,h1,E⟩:=ih _ _ out u h;refine⟨j,?_,E⟩;simp only[Yy,Instr.fill,C];simp_all
   ·cases h
  ·cases h
theorem Zko(P:Program)(w:World):∀(fs:List Field),(fs.all λ f=>(P.info? f.type).isSome)=true→
 (fs.mapM (λ f=>do pure (f.offset,←sizeOf f.type)):Sem (List (Nat×Nat))).run P w=.ok (fs.map λ f=>(f.offset,((P.info? f.type).map (·.size)).getD 0)) w:=by
 intro fs;induction fs with
 |nil=>simp
 |cons f r ih=>
  intro h;simp only[Ua,Yi]at h;obtain⟨i,j⟩:=Wj.1 h.1;simp only[List.mapM_cons,Yc,sy j,Y6,Yd,ih h.2,Yy,j,YE,YJ]
theorem Nq{ev:Operand→AV}{ρ:Operand→Value}(J:∀x,cz S w ι (ev x) (ρ x)){parts:Array (Nat×Operand)}{v:AV}
 (h:xF P ev t parts=some v):∃v',(Instr.build t (parts.map λ(i,x)=>(i,ρ x))).run P w=.ok v' w∧cz S w ι v v':=by
 unfold xF at h;split at h
 ·cases h
 ·rename_i z u;unfold iM at u;split at u
  ·cases u
  ·rename_i i O;split at u
   ·rename_i C H;have p:(zeroValue t).run P w=.ok C w:=by simp[zeroValue,typeInfo,O,H]
    obtain⟨y,_⟩:=zL u (cz.cu (S:=S) (w:=w) (ι:=ι) _ _ (uP C));have A:(parts.map λ(i,x)=>(i,ρ x)).toList=parts.toList.map λ x=>(x.1,ρ x.2):=by simp
    split at h
    ·rename_i fs E;split at h
     ·rename_i q;simp only[Yq]at h;obtain⟨out,ho,rfl⟩:=h;have B:(λ i=>(fs.toList.map λ f=>(f.offset,((P.info? f.type).map (·.size)).getD 0)).toArray[i]?)=Ex P fs:=by
       funext j;simp only[Ex,List.getElem?_toArray,YD,WG];cases hj:fs[j]? with
       |none=>rfl
       |some f=>
        grind
      obtain⟨o,h1,F⟩:=EG J (Ex P fs) parts.toList z C.cells out y ho;refine⟨.agg o,?_,F.agg⟩;unfold Instr.build;have M:(fs.mapM (λ f=>do pure (f.offset,←sizeOf f.type)):Sem (Array (Nat×Nat))).run P w=
       .ok (fs.toList.map λ f=>(f.offset,((P.info? f.type).map (·.size)).getD 0)).toArray w:=by
       rw[Array.mapM_eq_mapM_toList];simp only[Sem.run_map,Zko P w fs.toList q,Y6]
      simp only[Yc,p,Y6,Yb E,M,A];simp_all
     ·cases h
    ·rename_i n e E;split at h
     ·rename_i j hj;simp only[Yq]at h;obtain⟨out,ho,rfl⟩:=h;obtain⟨o,h1,F⟩:=EG J (λ i=>some (i*j.size,j.size)) parts.toList z C.cells out y ho;refine⟨.agg o,?_,F.agg⟩
      unfold Instr.build;simp only[Yc,p,Y6,Yb E,sy hj,A];simp_all
     ·cases h
    ·cases h
   grind
theorem TE{ty:TypeId}{v:AV}{x':Value}(h:oQ P t x=some v)(q:cz S w ι x x')(ts:Array TypeId)(j:ts[0]? =some t)(xs:Array Value)(i:xs[0]? =some x'):
 ∃v',(Builtin.len_ ts ty xs).run P w=.ok v' w∧cz S w ι v v':=by
 unfold oQ at h;split at h
 ·rename_i l p;injection h with h;subst h;rw[q.dk]at i;have e:(⟨l.toArray⟩:ByteArray).size=l.length:=by show l.toArray.size=_;simp
  exact⟨.int .i64 l.length,by simp[Builtin.len_,j,i,Yb p,goInt,e],.cu _ _ (.int _ _)⟩
 ·rename_i e fF p;injection h with h;subst h;refine⟨.int .i64 fF.length,?_,.cu _ _ (.int _ _)⟩;cases q with
  |cu _ _ q=>cases q<;>simp[Builtin.len_,j,i,Yb p,goInt]
 ·rename_i e o off n room p;injection h with h;subst h;refine⟨.int .i64 n,?_,.cu _ _ (.int _ _)⟩;cases q with
  |cu _ _ q=>cases q
  |fp=>simp[Builtin.len_,j,i,Yb p,goInt]
  |jg=>simp[Builtin.len_,j,i,Yb p,goInt]
 ·rename_i e p;injection h with h;subst h;refine⟨.int .i64 0,?_,.cu _ _ (.int _ _)⟩;cases q with
  |cu _ _ q=>cases q;simp[Builtin.len_,j,i,Yb p,goInt]
 ·rename_i n e p;injection h with h;subst h;exact⟨.int .i64 n,by simp[Builtin.len_,j,i,Yb p,goInt],.cu _ _ (.int _ _)⟩
 ·cases h
end
end
section
variable {S:Nat→Prop}{w:World}{ι:bp}{P:Program}
theorem xS(b o n:Nat):(⟨b,o,none⟩:Addr).add n=⟨b,o+n,none⟩:=Addr.add_lit b o n
theorem bA.Em{f:Nat}{cs:List AV}{vs:Array Value}(h:bA S w ι cs vs.toList):cz S w ι (.fn f cs) (om f vs):=
 .fn _ _ _ (by simpa using h.1) (λ j x v i hv=>h.2 j x v i (by simp_all))
theorem bA.kz{cs:List AV}{vs:Array Value}(h:bA S w ι cs vs.toList):cz S w ι (.cx cs) (.tuple vs):=
 .cx _ _ (by simpa using h.1) (λ j x v i hv=>h.2 j x v i (by simp_all))
theorem bA.map{α:Type}{e:α→AV}{ρ:α→Value}(h:∀x,cz S w ι (e x) (ρ x))(l:List α):bA S w ι (l.map e) (l.map ρ):=by
 refine⟨by simp,λ j x v hx hv=>?_⟩
 grind
theorem Pp{s:TypeId}{i:Nat}{fd:Field}{n:Nat}{b:Bool}(j:BZ P s i=some fd)(u:dS P fd.type=some (b,n+1))(p o:Nat):
 (Instr.fieldAt s (.pointer (some ⟨p,o,none⟩)) i).run P w=.ok (.pointer (some ⟨p,o+fd.offset,none⟩)) w:=by
 unfold BZ at j;split at j
 ·rename_i fs q;obtain⟨_,x⟩:=qQ u w;unfold Instr.fieldAt fieldPlace;simp only[Yc,Yb q,Y6,j,Instr.sureAddr,Yd,x,Nat.add_one_ne_zero,Ym,xS]
 grind
theorem Xe{ev:Operand→AV}{ρ:Operand→Value}(E:∀x,cz S w ι (ev x) (ρ x))(o:Oper){v:AV}(h:fb P ev o.op=some v):
 ∃v',(execOp ρ o).run P w=.ok (.value v') w∧cz S w ι v v':=by
 have A:∀(s:Sem Value),(∃v',s.run P w=.ok v' w∧cz S w ι v v')→∃v',(do pure (Next.value (←s)):Sem Next).run P w=.ok (.value v') w∧cz S w ι v v':=by
  rintro s ⟨v',h1,R⟩;exact⟨v',by simp_all,R⟩
 unfold fb at h;split at h
 ·rename_i x ho;injection h with h;subst h;exact⟨ρ x,by unfold execOp;rw[ho];rfl,E x⟩
 ·rename_i x ho;injection h with h;subst h;exact⟨ρ x,by unfold execOp;rw[ho];rfl,E x⟩
 ·
  rename_i s x i ho;split at h
  ·cases h
  ·rename_i fd J;split at h
   ·rename_i bb n Z;have j:=E x;unfold execOp;rw[ho];refine A _ ?_;split at h
    ·rename_i ob r c q;injection h with h;subst h;rw[q]at j;obtain⟨l,F,M⟩:=j.dF;rw[M];refine⟨_,Pp J Z _ _,?_⟩;have:=cz.ptr (S:=S) (w:=w) ob r (c+fd.offset) l F;grind
    ·rename_i row c q;injection h with h;subst h;rw[q]at j;cases j with
     |cu _ _ j=>
      generalize hrx:ρ x=vx at j;cases j with
      |rp _ _ bB base bc hS F dC du=>
       refine⟨_,Pp J Z _ _,?_⟩;rw[WW];exact .cu _ _ (.rp row (c+fd.offset) bB base bc hS F dC du)
    ·cases h
   ·cases h
 ·
  rename_i s x i ho;split at h
  ·cases h
  ·rename_i fd J;have j:=E x;unfold execOp;rw[ho];refine A _ ?_;split at h
   ·rename_i cs q;rw[q]at j;obtain⟨vs,M,U⟩:=j.eg;unfold BZ at J;split at J
    ·rename_i fs O;obtain⟨v',h1,R⟩:=MF U h;refine⟨v',?_,R⟩;unfold Instr.field;simp only[Yc,Yb O,Y6,J,M,asAgg,Yd];exact h1
    grind
   ·cases h
 ·
  rename_i op t x ho;have j:=E x;unfold execOp;rw[ho];refine A _ ?_;unfold KX at h;split at h
  ·rename_i k n q;injection h with h;subst h;rw[q]at j;rw[j.bU];exact⟨_,by rfl,.cu _ _ (.int _ _)⟩
  ·rename_i k n q;injection h with h;subst h;rw[q]at j;rw[j.bU];exact⟨_,by rfl,.cu _ _ (.int _ _)⟩
  ·rename_i b q;injection h with h;subst h;rw[q]at j;rw[j.dJ];exact⟨_,by rfl,.cu _ _ (.bool _)⟩
  ·cases h
 ·
  rename_i op t x y t' ho;unfold execOp;rw[ho];refine A _ ?_;exact Uq h (E x) (E y) x y
 ·
  rename_i t i ho;have j:=E t;unfold execOp;rw[ho];refine A _ ?_;split at h
  ·rename_i vs q;rw[q]at j;obtain⟨us,M,U⟩:=j.ib;obtain⟨u,hu,Y⟩:=U.get h;rw[M];have V:us[i]? =some u:=by simpa using hu
   exact⟨u,by simp only[Instr.extract,V,Yd],Y⟩
  ·cases h
 ·
  rename_i t parts ho;unfold execOp;rw[ho];refine A _ ?_;exact Nq E h
 ·
  rename_i f first cap ho
  unfold execOp;rw[ho];refine A _ ?_;cases od:first.isEmpty with
  |true=>
   rw[od]at h;simp only[Y4]at h;cases iU:Nat.blt f FB with
   |false=>simp_all
   |true=>
    rw[iU]at h;injection h with h;subst h;have J:first=#[]:=by simpa using od
    subst J;refine⟨om f (cap.map ρ),by rw[xB iU];simp[Instr.makeFunc],bA.Em ?_⟩
    rw[VM];exact bA.map E _
  |false=>
   rw[od]at h;simp only[Y7]at h;cases iH:cap.isEmpty with
   |false=>simp_all
   |true=>
    rw[iH]at h;injection h with h;subst h;have J:cap=#[]:=by simpa using iH
    subst J;have X:Nat.blt (FB+f) FB=false:=by
     cases hb:Nat.blt (FB+f) FB with
     |false=>rfl
     |true=>
      have:=Ws hb;omega
    refine⟨om (FB+f) (first.map ρ),by unfold om;rw[X,U1];simp[Instr.makeFunc],bA.Em ?_⟩
    rw[VM];exact bA.map E _
 ·
  rename_i x ho;have j:=E x;unfold execOp;rw[ho];split at h
  ·rename_i ob r c q;injection h with h;subst h;rw[q]at j;obtain⟨l,F,M⟩:=j.dF;simp_all
  ·rename_i row c q;injection h with h;subst h;rw[q]at j;refine⟨ρ x,?_,j⟩;have:∃p,ρ x=.pointer (some p):=by
    cases j with
    |cu _ _ j=>generalize ρ x=vx at j⊢;cases j;simp
   obtain⟨p,hp⟩:=this;simp_all
  ·rename_i uC cap q;injection h with h;subst h;rw[q]at j;obtain⟨us,M,U⟩:=j.ie;refine⟨ρ x,?_,j⟩;obtain⟨a1,b1,c1,hh⟩:∃a1 b1 c1,om uC us=.func (.func a1) b1 c1:=by
    unfold om;cases Nat.blt uC FB
    all_goals simp
   simp_all
  ·cases h
 ·
  rename_i s d x ho;have j:=E x;unfold execOp;rw[ho];refine A _ ?_;split at h
  ·rename_i ds k k' n O hd q;injection h with h;subst h;rw[q]at j;rw[j.bU];exact⟨.int k (k.wrap n),by simp[convert,Yb O,Yb hd,Conv.intToInt],.cu _ _ (.int _ _)⟩
  ·rename_i ds l O hd q;injection h with h;subst h;rw[q]at j;rw[j.dk];exact⟨_,by simp[convert,Yb O,Yb hd],.cu _ _ (cE.jK l)⟩
  ·cases h
 ·
  rename_i args ts ho;unfold execOp;rw[ho];split at h
  ·rename_i t x ht j;obtain⟨v',h1,R⟩:=TE (ty:=o.type) h (E x) ts ht (args.map ρ) (by simp[j])
   refine⟨v',?_,R⟩;simp only[resolve,invoke,builtin,Yc,Yd,Y6,h1]
  ·cases h
 ·
  rename_i args ts ho;unfold execOp;rw[ho];split at h
  ·rename_i x y F;have T:args=#[x,y]:=by apply Array.ext';simpa using F
   subst T;have j:=E x;have H:=E y;split at h
   ·rename_i k a k' b B C;injection h with h;subst h;rw[B]at j;rw[C]at H;refine⟨.int k (if b>a then b else a),?_,.cu _ _ (.int _ _)⟩;simp[resolve,invoke,builtin,j.bU,H.bU,run_max_int2]
   ·rename_i a b B C;injection h with h;subst h;rw[B]at j;rw[C]at H;refine⟨.string ⟨(if !Op.bytesLess a b then a else b).toArray⟩,?_,.cu _ _ (cE.jK _)⟩;simp only[resolve,invoke,builtin,Yc,Yd,Y6,List.map_toArray,Yy,VH,j.dk,H.dk,Builtin.max_];simp[Builtin.max2,Op.stringOp,asBool];grind
   ·cases h
  ·cases h
 ·
  rename_i args ts ho;unfold execOp;rw[ho];split at h
  ·rename_i x y F;have T:args=#[x,y]:=by apply Array.ext';simpa using F
   subst T;have j:=E x;have H:=E y;split at h
   ·rename_i k a k' b B C;injection h with h;subst h;rw[B]at j;rw[C]at H;refine⟨.int k (if b<a then b else a),?_,.cu _ _ (.int _ _)⟩;simp[resolve,invoke,builtin,j.bU,H.bU,run_min_int2]
   ·cases h
  ·rename_i x y z F;have T:args=#[x,y,z]:=by apply Array.ext';simpa using F
   subst T;have j:=E x;have H:=E y;have hz:=E z;split at h
   ·rename_i k a k' b k'' c B C Q;injection h with h;subst h;rw[B]at j;rw[C]at H;rw[Q]at hz;refine⟨.int k (if c<(if b<a then b else a)then c else(if b<a then b else a)),?_,.cu _ _ (.int _ _)⟩;simp[resolve,invoke,builtin,j.bU,H.bU,hz.bU,run_min_int3]
   ·cases h
  ·cases h
 ·cases h
end
def dG(ol:Nat→Option AO):AV→Option (Bool×List (List AV)×bL)
 |.sl xs=>some (true,xs,[])
 |.dK=>some (true,[],[])
 |.bf o _=>match ol o with
  |some (.rows p rs)=>some (p,rs,[o])
  |some (.dD rs)=>some (true,rs,[o])
  |_=>none
 |.fp o off len _=>match ol o with
  |some (.rows p rs)=>some (p,(rs.drop off).take len,[o])
  |some (.dD rs)=>some (true,(rs.drop off).take len,[o])
  |_=>none
 |.str l=>some (true,l.map λ b=>[.int .u8 b.toNat],[])
 |_=>none
def dE(P:Program)(kt:TypeId)(k k':AV):Option Bool:=
 match P.underlying kt,k,k' with
 |some (.int _),.int q a,.int q' b=>if q=q' then some (a==b)else none
 |some .string,.str a,.str b=>some (a==b)
 |some .bool,.bool a,.bool b=>some (a==b)
 |some (.struct _),.agg [.int q a,.int r b],.agg [.int q' a',.int r' b']=>if q=q'∧r=r' then some (a==a'&&b==b')else none
 |_,_,_=>none
def oI(P:Program)(kt:TypeId):Bool:=
 match P.underlying kt with
 |some (.struct fs)=>(match fs.toList with
  | [f,g]=>f.name != "_" &&g.name != "_" &&decide (f.offset=0)&&decide (g.offset=1)&&(match P.underlying f.type,P.underlying g.type with|some (.int _),some (.int _)=>true|_,_=>false)&&
   decide ((dS P f.type).map (·.1)=some false)&&decide ((dS P g.type).map (·.1)=some false)&&lK P 20 kt&&decide (P.cellsOf kt=2)
  |_=>false)
 |_=>false
def dT(P:Program)(kt:TypeId)(k:AV):Bool:=
 match P.underlying kt,k with
 |some (.int _),.int _ _=>true
 |some .string,.str _=>true
 |some .bool,.bool _=>true
 |some (.struct _),.agg [.int _ _,.int _ _]=>oI P kt
 |_,_=>false
def zeroV(P:Program)(t:TypeId):Option AV:=
 match P.info? t with
 |none=>none
 |some i=>match i.zero with
  |some v=>some (mV v)
  |none=>none
def gM(P:Program)(kt:TypeId)(k:AV):List (AV×AV)→Nat→Option Nat→Prop
 | [],_,r=>r=none
 |e::es,i,r=>(dE P kt k e.1=some true∧r=some i)∨(dE P kt k e.1=some false∧gM P kt k es (i+1) r)
def gg(ev:Operand→AV)(o:Option Operand)(d n:Nat):Prop:=
 match o with
 |none=>n=d
 |some x=>∃k i,ev x=.int k i∧0≤i∧i.toNat=n
def eN(P:Program)(t:TypeId):Option Nat:=
 match P.underlying t with
 |some (.slice e)=>match P.info? e with
  |some i=>match i.zero with
   |some z=>if(decide (i.bytes≤131072)&&decide (z.cells.size=i.size))=true then some i.size else none
   |none=>none
  |none=>none
 |_=>none
def je(P:Program)(t:TypeId):Bool:=
 match P.underlying t with
 |some (.slice _)=>true
 |some .string=>true
 |_=>false
def gP(P:Program)(t:TypeId):Option (List AV):=
 match P.underlying t with
 |some (.slice e)=>iM P e
 |_=>none
def chunk(n:Nat):Nat→List AV→List (List AV)
 |0,_=>[]
 |k+1,cs=>cs.take n::chunk n k (cs.drop n)
def dL(P:Program)(t:TypeId):Option TypeId:=
 match P.underlying t with
 |some (.map k _)=>some k
 |_=>none
def gT(P:Program)(t:TypeId):Option TypeId:=
 match P.underlying t with
 |some (.map _ e)=>some e
 |_=>none
def jq(es:List (AV×AV))(r:Option Nat)(k v:AV):List (AV×AV):=
 match r with
 |some i=>es.modify i λ _=>(k,v)
 |none=>es++[(k,v)]
def gY(l:aj):List (List AV):=l.map λ b=>[.int .u8 b.toNat]
def sY(P:Program)(s d:TypeId):Bool:=
 match P.underlying s,P.underlying d with
 |some .string,some (.slice e)=>match P.underlying e with
  |some (.int .u8)=>true
  |_=>false
 |_,_=>false
inductive ey(P:Program)(ev:Operand→AV)(ol:Nat→Option AO)(id:Nat):Op→AV→List (Nat×Option AO)→bL→Prop
 |oC (t:TypeId) (x:Operand) (lo hi:Option Operand) (l:aj) (a b:Nat) (h:ev x=.str l) (ht:P.underlying t=some .string)
  (ha:gg ev lo 0 a) (hb:gg ev hi l.length b) (jG:a≤b) (gL:b≤l.length):ey P ev ol id (.slice t x lo hi none) (.str ((l.take b).drop a)) [] []
 |tL (t:TypeId) (x:Operand) (lo hi:Option Operand) (xs:List (List AV)) (a b sz:Nat) (h:ev x=.sl xs) (ht:eN P t=some sz) (hl:a=0∨∀r∈xs,r.length=sz)
  (ha:gg ev lo 0 a) (hb:gg ev hi xs.length b) (jG:a≤b) (gL:b≤xs.length):ey P ev ol id (.slice t x lo hi none) (.sl ((xs.take b).drop a)) [] []
 |mi (t:TypeId) (x:Operand) (lo:Option Operand) (h m:Operand) (k k':IntKind) (q:Bool×List (List AV)×bL) (sz:Nat) (hs:∀l,ev x≠.str l) (hx:dG ol (ev x)=some q) (ht:eN P t=some sz)
  (ha:gg ev lo 0 0) (hh:ev h=.int k 0) (hm:ev m=.int k' 0):ey P ev ol id (.slice t x lo (some h) (some m)) .dK [] q.2.2
 |oD (t:TypeId) (x:Operand) (lo hi:Option Operand) (o z a b sz:Nat) (y:AO) (rs:List (List AV)) (h:ev x=.bf o z) (ho:ol o=some y) (hy:y=.rows true rs∨y=.rows false rs∨y=.dD rs)
  (hr:∀r∈rs,r.length=sz) (ht:eN P t=some sz) (ha:gg ev lo 0 a) (hb:gg ev hi rs.length b) (jG:a≤b) (gL:b≤rs.length):
  ey P ev ol id (.slice t x lo hi none) (.fp o a (b-a) (rs.length-a)) [] [o]
 |oE (t:TypeId) (x:Operand) (lo hi:Option Operand) (o off len room a b sz:Nat) (y:AO) (rs:List (List AV)) (h:ev x=.fp o off len room) (ho:ol o=some y) (hy:y=.rows true rs∨y=.rows false rs∨y=.dD rs)
  (hr:∀r∈rs,r.length=sz) (ht:eN P t=some sz) (ha:gg ev lo 0 a) (hb:gg ev hi len b) (jG:a≤b) (gL:b≤len) (ux:off+room≤rs.length):
  ey P ev ol id (.slice t x lo hi none) (.fp o (off+a) (b-a) (room-a)) [] [o]
 |uE (t:TypeId) (x:Operand) (hi:Operand) (o z b:Nat) (rs:List (List AV)) (h:ev x=.bf o z) (ho:ol o=some (.rows true rs)) (hr:∀r∈rs,r.length=z) (ht:eN P t=some z)
  (hb:gg ev (some hi) rs.length b) (gL:b≤rs.length):ey P ev ol id (.slice t x none (some hi) none) (.bf id z) [(id,some (.rows true (rs.take b))),(o,none)] []
 |tV (t:TypeId) (l c:Operand) (k k':IntKind) (n m:Int) (z:List AV) (sz:Nat) (hl:ev l=.int k n) (hc:ev c=.int k' m) (h0:0≤n) (h1:n≤m) (h2:m≤bI)
  (ht:eN P t=some sz) (hz:gP P t=some z):ey P ev ol id (.makeSlice t l c) (.bf id sz) [(id,some (.rows true (List.replicate n.toNat z)))] []
 |pj (t:TypeId) (len:Nat) (parts:Array (Nat×Operand)) (z cs:List AV) (sz:Nat) (ht:eN P t=some sz) (hz:gP P t=some z) (cS:len*sz≤16777216) (jx:len≤bI)
  (iG:cs.length=len*sz) (jb:cs.all kp=true) (hf:fZ ev (λ i=>some (i*sz,sz)) parts.toList (List.replicate len z).flatten=some cs):ey P ev ol id (.buildSlice t len parts) (.bf id sz) [(id,some (.rows (cs.all iy) (chunk sz len cs)))] []
 |sf (t tx:TypeId) (s x:Operand) (q:Bool×List (List AV)×bL) (sz:Nat) (hs:ev s=.dK) (hx:dG ol (ev x)=some q) (ht:eN P t=some sz) (uh:je P tx=true)
  (hr:∀r∈q.2.1,r.length=sz) (cS:q.2.1.length≤bI):ey P ev ol id (.call {callee:=.builtin .append,args:=#[s,x],argTypes:=#[t,tx]}) (.bf id sz) [(id,some (.rows q.1 q.2.1))] q.2.2
 |se (t tx:TypeId) (s x:Operand) (q:Bool×List (List AV)×bL) (sz o z:Nat) (p:Bool) (rs:List (List AV)) (hs:ev s=.bf o z) (hz:z=sz) (ho:ol o=some (.rows p rs)) (hx:dG ol (ev x)=some q)
  (ht:eN P t=some sz) (uh:je P tx=true) (hr:∀r∈q.2.1,r.length=sz) (pO:∀r∈rs,r.length=sz) (cS:rs.length+q.2.1.length≤bI):
  ey P ev ol id (.call {callee:=.builtin .append,args:=#[s,x],argTypes:=#[t,tx]}) (.bf id sz) [(id,some (.rows (p&&q.1) (rs++q.2.1))),(o,none)] q.2.2
 |cv (s d:TypeId) (x:Operand) (l:aj) (hx:ev x=.str l) (ht:sY P s d=true) (hl:l.length≤bI):
  ey P ev ol id (.convert s d x) (.bf id 1) [(id,some (.rows true (gY l)))] []
 |toStr (s d:TypeId) (x:Operand) (l:aj) (q:Bool×List (List AV)×bL) (hs:∀l,ev x≠.str l) (hx:dG ol (ev x)=some q) (hl:q.2.1=gY l) (ht:sY P d s=true):
  ey P ev ol id (.convert s d x) (.str l) [] q.2.2
 |mkMap (t:TypeId) (h:(dL P t).isSome=true):ey P ev ol id (.makeMap t none) (.bm id) [(id,some (.bm true []))] []
 |mn (t:TypeId) (x:Operand) (k:IntKind) (n:Int) (h:(dL P t).isSome=true) (hx:ev x=.int k n):ey P ev ol id (.makeMap t (some x)) (.bm id) [(id,some (.bm true []))] []
 |iQ (op:Op) (t kt:TypeId) (m k x:Operand) (jh:op=.mapUpdate t m k x∨op=.insert t m k x) (o:Nat) (p:Bool) (es:List (AV×AV)) (r:Option Nat) (hm:ev m=.bm o) (ho:ol o=some (.bm p es)) (ht:dL P t=some kt)
  (hk:dT P kt (ev k)=true) (hr:gM P kt (ev k) es 0 r) (cS:es.length+1≤bI) (v':AV) (hw:Wk (ev x) v'):ey P ev ol id op .undef [(o,some (.bm (p&&vX v') (jq es r (ev k) v')))] []
 |look (t kt:TypeId) (m k:Operand) (ok:Bool) (o:Nat) (p:Bool) (es:List (AV×AV)) (r:Option Nat) (v:AV) (hm:ev m=.bm o) (ho:ol o=some (.bm p es)) (ht:dL P t=some kt) (hk:dT P kt (ev k)=true)
  (hr:gM P kt (ev k) es 0 r) (hv:(∃i e,r=some i∧es[i]? =some e∧v=e.2)∨(r=none∧∃vt zv,gT P t=some vt∧zeroV P vt=some zv∧Wk zv v)):
  ey P ev ol id (.lookup t m k ok) (if ok then .cx [v,.bool r.isSome]else v) [] [o]
 |oN (t kt vt:TypeId) (m k:Operand) (ok:Bool) (v:AV) (hm:ev m=.eT (.map none)) (ht:dL P t=some kt) (hk:dT P kt (ev k)=true)
  (lj:gT P t=some vt) (hz:zeroV P vt=some v):ey P ev ol id (.lookup t m k ok) (if ok then .cx [v,.bool false]else v) [] []
def fy(fs:List (AV×List (List AV))):List (AV×AV):=fs.map λ e=>(e.1,AV.undef)
def jo(fs:List (AV×List (List AV)))(r:Option Nat)(k:AV)(rs:List (List AV)):List (AV×List (List AV)):=
 match r with
 |some i=>fs.set i (k,rs)
 |none=>fs++[(k,rs)]
def lD(fs:List (AV×List (List AV)))(r:Option Nat):List (AV×List (List AV)):=
 match r with
 |some i=>fs.eraseIdx i
 |none=>fs
def lE(es:List (AV×AV))(r:Option Nat):List (AV×AV):=
 match r with
 |some i=>es.eraseIdx i
 |none=>es
def KS(d:AV)(rs:List (List AV))(o off len:Nat):Prop:=(∃z,d=.bf o z∧off=0∧len=rs.length)∨∃room,d=.fp o off len room∧off+room≤rs.length
def EB(h:Option (Nat×Nat))(r:Option Nat):Prop:=h=none∨∃i q,h=some (i,q)∧r=some i
def sd(P:Program)(s d:TypeId):Bool:=
 Nat.beq s d&&match P.underlying s with
  |some (.slice e)=>(match P.underlying e with|some (.int .u8)=>true|_=>false)
  |_=>false
theorem X5{P:Program}{s d:TypeId}(h:sd P s d=true):d=s∧∃e,P.underlying s=some (.slice e)∧P.underlying e=some (.int .u8):=by
 unfold sd at h;rw[Yi]at h;obtain⟨h1,i⟩:=h;split at i
 ·rename_i e he;split at i
  all_goals simp_all
 grind
inductive eO(P:Program)(ev:Operand→AV)(ol:Nat→Option AO)(id:Nat):Op→AV→List (Nat×Option AO)→bL→Prop
 |look (t kt:TypeId) (m k:Operand) (ok:Bool) (o z:Nat) (fs:List (AV×List (List AV))) (i:Nat) (e:AV×List (List AV)) (hm:ev m=.bm o) (ho:ol o=some (.cw z fs none)) (ht:dL P t=some kt)
  (hk:dT P kt (ev k)=true) (hr:gM P kt (ev k) (fy fs) 0 (some i)) (he:fs[i]? =some e):
  eO P ev ol id (.lookup t m k ok) (if ok then .cx [.bf id z,.bool true]else .bf id z) [(id,some (.rows true e.2)),(o,some (.cw z fs (some (i,id))))] []
 |tO (t kt:TypeId) (m k:Operand) (o z:Nat) (fs:List (AV×List (List AV))) (h:Option (Nat×Nat)) (r:Option Nat) (hm:ev m=.bm o) (ho:ol o=some (.cw z fs h)) (ht:dL P t=some kt)
  (hk:dT P kt (ev k)=true) (hr:gM P kt (ev k) (fy fs) 0 r) (hz:∃vt zv,gT P t=some vt∧zeroV P vt=some zv):eO P ev ol id (.lookup t m k true) (.cx [.undef,.bool r.isSome]) [] [o]
 |ic (t kt:TypeId) (m k:Operand) (ok:Bool) (o z:Nat) (fs:List (AV×List (List AV))) (h:Option (Nat×Nat)) (v:AV) (hm:ev m=.bm o) (ho:ol o=some (.cw z fs h)) (ht:dL P t=some kt)
  (hk:dT P kt (ev k)=true) (hr:gM P kt (ev k) (fy fs) 0 none) (hv:∃vt zv,gT P t=some vt∧zeroV P vt=some zv∧Wk zv v):
  eO P ev ol id (.lookup t m k ok) (if ok then .cx [v,.bool false]else v) [] [o]
 |fq (op:Op) (t kt:TypeId) (m k x:Operand) (jh:op=.mapUpdate t m k x∨op=.insert t m k x) (o z q:Nat) (fs:List (AV×List (List AV))) (h:Option (Nat×Nat)) (r:Option Nat) (rs:List (List AV))
  (hm:ev m=.bm o) (ho:ol o=some (.cw z fs h)) (ht:dL P t=some kt) (hk:dT P kt (ev k)=true) (hr:gM P kt (ev k) (fy fs) 0 r) (hh:EB h r) (cS:fs.length+1≤bI)
  (hx:ev x=.bf q z) (hq:ol q=some (.rows true rs)) (hl:∀row∈rs,row.length=z) (hz:0<z) (iF:q≠o):
  eO P ev ol id op .undef [(o,some (.cw z (jo fs r (ev k) rs) none)),(q,none)] []
 |del (t tk kt:TypeId) (m k:Operand) (o z:Nat) (fs:List (AV×List (List AV))) (h:Option (Nat×Nat)) (r:Option Nat) (hm:ev m=.bm o) (ho:ol o=some (.cw z fs h)) (ht:dL P t=some kt)
  (hk:dT P kt (ev k)=true) (hr:gM P kt (ev k) (fy fs) 0 r) (hh:EB h r):
  eO P ev ol id (.call {callee:=.builtin .delete,args:=#[m,k],argTypes:=#[t,tk]}) (.cx []) [(o,some (.cw z (lD fs r) none))] []
 |copy (t ts:TypeId) (d s:Operand) (o off len:Nat) (p:Bool) (rs:List (List AV)) (q:Bool×List (List AV)×bL) (sz:Nat) (ho:ol o=some (.rows p rs)) (hd:KS (ev d) rs o off len) (hs:dG ol (ev s)=some q)
  (ht:eN P t=some sz) (hr:∀r∈rs,r.length=sz) (pO:∀r∈q.2.1,r.length=sz):
  eO P ev ol id (.call {callee:=.builtin .copy,args:=#[d,s],argTypes:=#[t,ts]}) (.int .i64 (min len q.2.1.length:Nat))
   [(o,some (.rows (p&&q.1) (rs.take off++(q.2.1.take (min len q.2.1.length)++rs.drop (off+min len q.2.1.length)))))] q.2.2
 |sa (t tk kt:TypeId) (m k:Operand) (o:Nat) (p:Bool) (es:List (AV×AV)) (r:Option Nat) (hm:ev m=.bm o) (ho:ol o=some (.bm p es)) (ht:dL P t=some kt)
  (hk:dT P kt (ev k)=true) (hr:gM P kt (ev k) es 0 r):
  eO P ev ol id (.call {callee:=.builtin .delete,args:=#[m,k],argTypes:=#[t,tk]}) (.cx []) [(o,some (.bm p (lE es r)))] []
 |len (x:Operand) (ts:Array TypeId) (args:Array Operand) (t:TypeId) (o z:Nat) (fs:List (AV×List (List AV))) (h:Option (Nat×Nat)) (ha:args[0]? =some x) (ui:ts[0]? =some t) (ht:(dL P t).isSome=true)
  (hx:ev x=.bm o) (ho:ol o=some (.cw z fs h)):eO P ev ol id (.call {callee:=.builtin .len,args:=args,argTypes:=ts}) (.int .i64 fs.length) [] [o]
 |oK (t t' e:TypeId) (x:Operand) (o z:Nat) (p:Bool) (rs:List (List AV)) (hx:ev x=.bf o z) (ho:ol o=some (.rows p rs)) (ht:P.underlying t=some (.slice e)):
  eO P ev ol id (.binOp .eql t x (.const (.slice none 0 0)) t') (.eR (rs=[])) [] [o]
 |BQ (t:TypeId) (x:Operand) (o off len room:Nat) (p:Bool) (rs:List (List AV)) (z:List AV) (sz:Nat) (h:ev x=.fp o off len room) (ho:ol o=some (.rows p rs)) (ht:eN P t=some sz) (hz:gP P t=some z)
  (hr:∀r∈rs,r.length=sz) (ux:off+room≤rs.length):
  eO P ev ol id (.call {callee:=.builtin .clear,args:=#[x],argTypes:=#[t]}) (.cx []) [(o,some (.rows p (rs.take off++(List.replicate len z++rs.drop (off+len)))))] []
 |mk (t:TypeId) (z:Nat) (h:(dL P t).isSome=true):eO P ev ol id (.makeMap t none) (.bm id) [(id,some (.cw z [] none))] []
 |tW (t:TypeId) (len:Nat) (parts:Array (Nat×Operand)) (z cs:List AV) (ht:eN P t=some 1) (hz:gP P t=some z) (cS:len*1≤16777216) (jx:len≤bI) (nW:0<len)
  (iG:cs.length=len*1) (jb:cs.all kp=true) (nG:cs.all iy=true) (hf:fZ ev (λ i=>some (i*1,1)) parts.toList (List.replicate len z).flatten=some cs):
  eO P ev ol id (.buildSlice t len parts) (.bf id 1) [(id,some (.lit (chunk 1 len cs)))] []
 |Ep (s d:TypeId) (x:Operand) (o:Nat) (rs:List (List AV)) (hx:ev x=.bf o 1) (ho:ol o=some (.lit rs)) (ht:sd P s d=true):
  eO P ev ol id (.convert s d x) (.bf o 1) [(o,some (.rows true rs))] []
 |mE (t:TypeId) (cs:List AV) (k z:Nat) (h:iM P t=some cs) (hk:cs[k]? =some .dK):
  eO P ev ol id (.alloc t) (.ptr id 0 0) [(id,some (.rows false [setAt cs k [.bf (id+1) z]])),(id+1,some (.rows true []))] []
 |uG (t:TypeId) (x:Operand) (cs:List AV) (k z:Nat) (h:lv (ev x)=some cs) (hk:cs[k]? =some .dK):
  eO P ev ol id (.box t x) (.ptr id 0 0) [(id,some (.rows false [setAt cs k [.bf (id+1) z]])),(id+1,some (.rows true []))] []
 |mD (t:TypeId) (parts:Array (Nat×Operand)) (cs:List AV) (k z:Nat) (h:xF P ev t parts=some (.agg cs)) (hk:cs[k]? =some .dK):
  eO P ev ol id (.build t parts) (.agg (setAt cs k [.bf id z])) [(id,some (.rows true []))] []
def W:Nat:=32
def lk(os:List (Nat×AO))(o:Nat):Option AO:=
 match os with
 | []=>none
 |(k,x)::r=>if o=k then some x else lk r o
structure kh(Ow:Nat→Prop)(S:Nat→Prop)(w:World)(ι:bp)(os:Nat→Option AO):Prop where
 ob:∀o x,os o=some x→cX S w ι o x
 own:∀o x,os o=some x→x.live=true→∀l,ι o=some (some l)→∀b,c6 w x l b→Ow b∧¬S b∧b<w.heap.size
 inj:∀o o' x x',os o=some x→os o'=some x'→x.live=true→x'.live=true→
  ∀l l',ι o=some (some l)→ι o'=some (some l')→∀b,c6 w x l b→c6 w x' l' b→o=o'
def fe(P:Program)(f:Nat):Bool:=
 match P.funcs[f]? with
 |some fn=>!(fn.name== "runtime.NumGoroutine")&&fn.body.isSome&&Nat.blt f FB
 |none=>false
theorem Cc{P:Program}{f:Nat}(h:fe P f=true):Nat.blt f FB=true:=by
 unfold fe at h;grind
theorem JZ{P:Program}{f:Nat}(h:fe P f=true)(args:Array Value)(w:World):(callFunc f args).run P w=.ok (.enter f args) w:=by
 unfold fe at h;split at h
 ·rename_i fn j;simp only[Yi,VI,YV]at h;replace h:=h.1;have i:fn.body.isNone=false:=by cases i:fn.body<;>simp_all
  unfold callFunc;simp only[Yc,run_program,Y6,j,h.1,i,YN,Ym,Yd]
 ·cases h
def dR(w0:World)(ι0:bp)(cQ:List (Nat×AO))(b:Nat):Prop:=
 w0.heap.size≤b∨∃o x l,lk cQ o=some x∧x.live=true∧ι0 o=some (some l)∧c6 w0 x l b
def FC(P:Program)(G:eo)(f:Nat)(cQ:List (Nat×AO))(args:List AV)(rv:AV)(cr:List (Nat×AO)):Prop:=
 fe P f=true∧(∀o x,lk cr o=some x→o<W)∧
 ∀(S0:Nat→Prop) (ι0:bp) (w0:World) (vs:Array Value),
  (∀b,S0 b→b<w0.heap.size)→pE G S0 w0→kh (dR w0 ι0 cQ) S0 w0 ι0 (lk cQ)→(∀o,cQ.length≤o→ι0 o=none)→bA S0 w0 ι0 args vs.toList→
  Calls P f vs w0 λ e w'=>∃v S' ι',e=.returned v∧Fr (dR w0 ι0 cQ) w0 w'∧
   (∀b,S' b→(S0 b∨dR w0 ι0 cQ b)∧b<w'.heap.size)∧(∀b,S0 b→S' b)∧ι0.le ι'∧(∀o,W≤o→ι' o=none)∧
   cz S' w' ι' rv v∧kh (dR w0 ι0 cQ) S' w' ι' (lk cr)
mutual
def cY(σ:Nat→Nat):AV→AV
 |.ptr o r c=>.ptr (σ o) r c
 |.fp o a b c=>.fp (σ o) a b c
 |.bf o z=>.bf (σ o) z
 |.bm o=>.bm (σ o)
 |.agg cs=>.agg (fT σ cs)
 |.cx cs=>.cx (fT σ cs)
 |.fn f cs=>.fn f (fT σ cs)
 |x=>x
def fT(σ:Nat→Nat):List AV→List AV
 | []=>[]
 |x::r=>cY σ x::fT σ r
end
def dq(σ:Nat→Nat):AO→AO
 |.rows false rs=>.rows false (rs.map (fT σ))
 |.rows true rs=>.rows true rs
 |.dD rs=>.dD rs
 |.cw z fs h=>.cw z fs (h.map λ e=>(e.1,σ e.2))
 |.cF es h=>.cF es (h.map λ e=>(e.1,σ e.2))
 |.lit rs=>.lit rs
 |.bm false es=>.bm false (es.map λ e=>(e.1,cY σ e.2))
 |.bm true es=>.bm true es
mutual
def fu(n:Nat):AV→Bool
 |.ptr o _ _=>decide (o<n)
 |.fp o _ _ _=>decide (o<n)
 |.bf o _=>decide (o<n)
 |.bm o=>decide (o<n)
 |.agg cs=>fi n cs
 |.cx cs=>fi n cs
 |.fn _ cs=>fi n cs
 |_=>true
def fi(n:Nat):List AV→Bool
 | []=>true
 |x::r=>fu n x&&fi n r
end
def dt(n:Nat):AO→Bool
 |.rows false rs=>rs.all (fi n)
 |.bm false es=>es.all λ e=>fu n e.2
 |.cw _ _ (some e)=>decide (e.2<n)
 |.cF _ (some e)=>decide (e.2<n)
 |_=>true
mutual
def flat:AV→Bool
 |.int .. |.bool _|.str _|.eT _=>true
 |.agg cs=>nr cs
 |.cx cs=>nr cs
 |_=>false
def nr:List AV→Bool
 | []=>true
 |x::r=>flat x&&nr r
end
def kX{α β:Type}(f:α→Option β):List α→Option (List β)
 | []=>some []
 |x::r=>match f x,kX f r with
  |some y,some s=>some (y::s)
  |_,_=>none
def qc(cl:AV→Option AV):AO→Option (List (List AV))
 |.rows true rs=>some rs
 |.rows false rs=>kX (kX cl) rs
 |.dD rs=>some rs
 |.bm _ _=>none
 |.cw .. =>none
 |.cF .. =>none
 |.lit _=>none
def gi(V:bL)(ol:Nat→Option AO):Nat→AV→Option AV
 |0,_=>none
 |n+1,x=>match x with
  |.bf o _=>if V.contains o then(match ol o with|some y=>(qc (gi V ol n) y).map .sl|none=>none)else none
  |.fp o off len _=>if V.contains o then(match ol o with|some y=>(qc (gi V ol n) y).map λ rs=>.sl ((rs.drop off).take len)|none=>none)else none
  |.ptr o r c=>if V.contains o then(match ol o with
   |some y=>(match qc (gi V ol n) y with|some rs=>(match rs[r]? with|some row=>some (.rp row c)|none=>none)|none=>none)
   |none=>none)else none
  |.agg cs=>(kX (gi V ol n) cs).map .agg
  |.cx cs=>(kX (gi V ol n) cs).map .cx
  |.fn f cs=>(kX (gi V ol n) cs).map (.fn f)
  |.bm _=>none
  |x=>some x
def frozen(V:bL)(ol:Nat→Option AO)(n:Nat):Option (List (Nat×Option AO)):=
 kX (λ o=>match ol o with
  |some y=>(qc (gi V ol n) y).map λ rs=>(o,some (.dD rs))
  |none=>none) V
def qd(id:Nat)(os:List (Nat×AO)):List (Nat×Option AO):=os.map λ e=>(id+e.1,some (dq (id+ ·) e.2))
def bk(V:bL)(id:Nat)(j:Nat):Nat:=if j<V.length then V.getD j 0 else id+j
def hZ(V:bL)(id:Nat)(cr:List (Nat×AO)):List (Nat×Option AO):=
 cr.map (λ e=>(bk V id e.1,some (dq (bk V id) e.2)))++V.map λ o=>(o,none)
structure sI(V:bL)(id:Nat)(ol:Nat→Option AO)(kf:List AV)(cQ:List (Nat×AO))(bY:List AV):Prop where
 ok:(decide V.Nodup&&fi V.length bY&&cQ.all λ e=>dt V.length e.2)=true
 keys:cQ.map (·.1)=List.range V.length
 GI:dP (V.map ol) (cQ.map λ e=>some (dq (bk V id) e.2))
 args:eZ kf (fT (bk V id) bY)
def gB(es:List (AV×Gr)):List (AV×AV):=es.map λ e=>(e.1,AV.undef)
def sW:Nat→Gr→List (Nat×AO)
 |_,[]=>[]
 |k,e::r=>(k,e.2.ao)::sW (k+1) r
inductive GStep(P:Program)(ev:Operand→AV)(ol:Nat→Option AO)(id:Nat):Op→AV→List (Nat×Option AO)→bL→Prop
 |look (t kt:TypeId) (m k:Operand) (ok:Bool) (o:Nat) (es:List (AV×Gr)) (i:Nat) (e:AV×Gr) (hm:ev m=.bm o) (ho:ol o=some (.cF es none)) (ht:dL P t=some kt)
  (hk:dT P kt (ev k)=true) (hr:gM P kt (ev k) (gB es) 0 (some i)) (he:es[i]? =some e) (hW:e.2.length≤W):
  GStep P ev ol id (.lookup t m k ok) (if ok then .cx [.ptr id 0 0,.bool true]else .ptr id 0 0) (qd id (sW 0 e.2)++[(o,some (.cF es (some (i,id))))]) []
 |same (t kt:TypeId) (m k:Operand) (ok:Bool) (o q:Nat) (es:List (AV×Gr)) (i:Nat) (hm:ev m=.bm o) (ho:ol o=some (.cF es (some (i,q)))) (ht:dL P t=some kt)
  (hk:dT P kt (ev k)=true) (hr:gM P kt (ev k) (gB es) 0 (some i)):
  GStep P ev ol id (.lookup t m k ok) (if ok then .cx [.ptr q 0 0,.bool true]else .ptr q 0 0) [] [o]
 |ic (t kt:TypeId) (m k:Operand) (ok:Bool) (o:Nat) (es:List (AV×Gr)) (h:Option (Nat×Nat)) (v:AV) (hm:ev m=.bm o) (ho:ol o=some (.cF es h)) (ht:dL P t=some kt)
  (hk:dT P kt (ev k)=true) (hr:gM P kt (ev k) (gB es) 0 none) (hv:∃vt zv,gT P t=some vt∧zeroV P vt=some zv∧Wk zv v):
  GStep P ev ol id (.lookup t m k ok) (if ok then .cx [v,.bool false]else v) [] [o]
 |put (op:Op) (t kt:TypeId) (m k x:Operand) (jh:op=.mapUpdate t m k x∨op=.insert t m k x) (o q:Nat) (es:List (AV×Gr)) (hm:ev m=.bm o) (ho:ol o=some (.cF es none)) (ht:dL P t=some kt)
  (hk:dT P kt (ev k)=true) (hr:gM P kt (ev k) (gB es) 0 none) (cS:es.length+1≤bI) (hx:ev x=.ptr q 0 0) (g0:Gr):
  GStep P ev ol id op .undef [(o,some (.cF (es++[(ev k,g0)]) (some (es.length,q))))] []
 |mk (t:TypeId) (h:(dL P t).isSome=true):GStep P ev ol id (.makeMap t none) (.bm id) [(id,some (.cF [] none))] []
inductive dp(P:Program)(G:eo)(ev:Operand→AV)(ol:Nat→Option AO)(id:Nat):Op→AV→List (Nat×Option AO)→bL→Prop
 |pure (op:Op) (v:AV) (h:fb P ev op=some v):dp P G ev ol id op v [] []
 |more (op:Op) (v:AV) (U:List (Nat×Option AO)) (RO:bL) (h:ey P ev ol id op v U RO):dp P G ev ol id op v U RO
 |files (op:Op) (v:AV) (U:List (Nat×Option AO)) (RO:bL) (h:eO P ev ol id op v U RO):dp P G ev ol id op v U RO
 |jR (op:Op) (v:AV) (U:List (Nat×Option AO)) (RO:bL) (h:GStep P ev ol id op v U RO):dp P G ev ol id op v U RO
 |nil (z:Nat):dp P G ev ol id (.assign (.const (.slice none 0 0))) (.bf id z) [(id,some (.rows true []))] []
 |pick (c a b:Operand) (t:Bool) (h:ev c=.bool t):dp P G ev ol id (.pick c a b) (if t then ev a else ev b) [] []
 |alloc (t:TypeId) (cs:List AV) (h:iM P t=some cs):dp P G ev ol id (.alloc t) (.ptr id 0 0) [(id,some (.rows false [cs]))] []
 |box (t:TypeId) (x:Operand) (cs:List AV) (h:lv (ev x)=some cs):dp P G ev ol id (.box t x) (.ptr id 0 0) [(id,some (.rows false [cs]))] []
 |load (t:TypeId) (a:Operand) (o i c:Nat) (p:Bool) (rs:List (List AV)) (row:List AV) (v:AV) (h:ev a=.ptr o i c) (ho:ol o=some (.rows p rs))
  (hr:rs[i]? =some row) (hl:ot P t row c=some v):dp P G ev ol id (.load t a) v [] [o]
 |oP (t:TypeId) (a:Operand) (o i c:Nat) (rs:List (List AV)) (row:List AV) (v:AV) (h:ev a=.ptr o i c) (ho:ol o=some (.dD rs))
  (hr:rs[i]? =some row) (hl:ot P t row c=some v):dp P G ev ol id (.load t a) v [] [o]
 |oO (t:TypeId) (a:Operand) (row:List AV) (c:Nat) (v:AV) (h:ev a=.rp row c) (hl:ot P t row c=some v):dp P G ev ol id (.load t a) v [] []
 |store (t:TypeId) (a x:Operand) (o i c:Nat) (p:Bool) (rs:List (List AV)) (row cs:List AV) (b:Bool) (n:Nat) (h:ev a=.ptr o i c)
  (ho:ol o=some (.rows p rs)) (hr:rs[i]? =some row) (hc:lv (ev x)=some cs) (hk:dS P t=some (b,n)) (hn:cs.length=n)
  (hb:c+n≤row.length):dp P G ev ol id (.store t a x) .undef [(o,some (.rows (p&&cs.all iy) (rs.set i (setAt row c cs))))] []
 |mg (t:TypeId) (a x:Operand) (o i c:Nat) (p:Bool) (rs:List (List AV)) (row:List AV) (b:Bool) (q z:Nat) (xs:List (List AV)) (h:ev a=.ptr o i c)
  (ho:ol o=some (.rows p rs)) (hr:rs[i]? =some row) (hx:ev x=.bf q z) (hq:ol q=some (.rows true xs)) (iF:o≠q) (hk:dS P t=some (b,1))
  (hb:c+1≤row.length):dp P G ev ol id (.store t a x) .undef [(o,some (.rows (p&&[AV.sl xs].all iy) (rs.set i (setAt row c [.sl xs])))),(q,some (.dD xs))] []
 |mh (t:TypeId) (a x:Operand) (o i c:Nat) (p:Bool) (rs:List (List AV)) (row:List AV) (b:Bool) (z:Nat) (h:ev a=.ptr o i c)
  (ho:ol o=some (.rows p rs)) (hr:rs[i]? =some row) (hx:ev x=.dK) (hk:dS P t=some (b,1))
  (hb:c+1≤row.length):dp P G ev ol id (.store t a x) .undef [(o,some (.rows (p&&[AV.bf id z].all iy) (rs.set i (setAt row c [.bf id z])))),(id,some (.rows true []))] []
 |oT (t e:TypeId) (x ix:Operand) (xs:List (List AV)) (k:IntKind) (n:Int) (row:List AV) (b:Bool) (h:ev x=.sl xs) (hi:ev ix=.int k n) (h0:0≤n)
  (hr:xs[n.toNat]? =some row) (ht:P.underlying t=some (.slice e)) (hk:dS P e=some (b,row.length)):dp P G ev ol id (.indexAddr t x ix) (.rp row 0) [] []
 |mr (t e:TypeId) (x ix:Operand) (o z:Nat) (k:IntKind) (n:Int) (y:AO) (rs:List (List AV)) (row:List AV) (b:Bool) (h:ev x=.bf o z) (hi:ev ix=.int k n) (h0:0≤n)
  (ho:ol o=some y) (hy:y=.rows true rs∨y=.rows false rs∨y=.dD rs) (hr:rs[n.toNat]? =some row) (ht:P.underlying t=some (.slice e)) (hk:dS P e=some (b,row.length)):
  dp P G ev ol id (.indexAddr t x ix) (.ptr o n.toNat 0) [] [o]
 |mu (t e:TypeId) (x ix:Operand) (o off len room:Nat) (k:IntKind) (n:Int) (y:AO) (rs:List (List AV)) (row:List AV) (b:Bool) (h:ev x=.fp o off len room)
  (hi:ev ix=.int k n) (h0:0≤n) (h1:n.toNat<len)
  (ho:ol o=some y) (hy:y=.rows true rs∨y=.rows false rs∨y=.dD rs) (hr:rs[off+n.toNat]? =some row) (ht:P.underlying t=some (.slice e)) (hk:dS P e=some (b,row.length)):
  dp P G ev ol id (.indexAddr t x ix) (.ptr o (off+n.toNat) 0) [] [o]
 |mv (t e:TypeId) (x ix:Operand) (o r c len sz:Nat) (k:IntKind) (n:Int) (b:Bool) (h:ev x=.ptr o r c) (hi:ev ix=.int k n) (h0:0≤n) (h1:n<len)
  (ht:P.underlying t=some (.array len e)) (hk:dS P e=some (b,sz)):dp P G ev ol id (.indexAddr t x ix) (.ptr o r (c+n.toNat*sz)) [] []
 |kc (t e:TypeId) (x ix:Operand) (row:List AV) (c len sz:Nat) (k:IntKind) (n:Int) (b:Bool) (h:ev x=.rp row c) (hi:ev ix=.int k n) (h0:0≤n) (h1:n<len)
  (ht:P.underlying t=some (.array len e)) (hk:dS P e=some (b,sz)):dp P G ev ol id (.indexAddr t x ix) (.rp row (c+n.toNat*sz)) [] []
 |oA (t:TypeId) (x ix:Operand) (l:aj) (k:IntKind) (n:Int) (c:UInt8) (h:ev x=.str l) (hi:ev ix=.int k n) (h0:0≤n)
  (hr:l[n.toNat]? =some c) (ht:P.underlying t=some .string):dp P G ev ol id (.index t x ix) (.int .u8 c.toNat) [] []
 |pn (t e:TypeId) (x ix:Operand) (cs:List AV) (len sz:Nat) (k:IntKind) (n:Int) (b:Bool) (v:AV) (h:ev x=.agg cs) (hi:ev ix=.int k n) (h0:0≤n) (h1:n<len)
  (ht:P.underlying t=some (.array len e)) (hk:dS P e=some (b,sz)) (hl:ot P e cs (n.toNat*sz)=some v):dp P G ev ol id (.index t x ix) v [] []
 |quo (t t':TypeId) (x y:Operand) (k:IntKind) (a b:Int) (hx:ev x=.int k a) (hy:ev y=.int k b) (h0:b≠0):
  dp P G ev ol id (.binOp .quo t x y t') (.int k (k.wrap (a.tdiv b))) [] []
 |rem (t t':TypeId) (x y:Operand) (k:IntKind) (a b:Int) (hx:ev x=.int k a) (hy:ev y=.int k b) (h0:b≠0):
  dp P G ev ol id (.binOp .rem t x y t') (.int k (a.tmod b)) [] []
 |shl (t t':TypeId) (x y:Operand) (k k':IntKind) (a b:Int) (hx:ev x=.int k a) (hy:ev y=.int k' b) (h0:0≤b):
  dp P G ev ol id (.binOp .shl t x y t') (.int k (k.wrap (a*2^(min b.toNat k.bits)))) [] []
 |shr (t t':TypeId) (x y:Operand) (k k':IntKind) (a b:Int) (hx:ev x=.int k a) (hy:ev y=.int k' b) (h0:0≤b):
  dp P G ev ol id (.binOp .shr t x y t') (.int k (a.fdiv (2^(min b.toNat k.bits)))) [] []
 |cat (t t':TypeId) (x y:Operand) (a b:aj) (hx:ev x=.str a) (hy:ev y=.str b) (h:a.length+b.length≤9223372036854775807):
  dp P G ev ol id (.binOp .add t x y t') (.str (a++b)) [] []
 |pc (t t':TypeId) (x y:Operand) (cs ds:List AV) (r:Bool) (hx:ev x=.agg cs) (hy:ev y=.agg ds) (hp:lK P 20 t=true) (hg:P.eqGuardType P.depth t=false) (iE:∃fs,P.underlying t=some (.struct fs))
  (hc:cs.length=P.cellsOf t) (hd:ds.length=P.cellsOf t) (h:lJ P 20 t cs ds 0=some r):dp P G ev ol id (.binOp .eql t x y t') (.bool r) [] []
 |oM (t t':TypeId) (x y:Operand) (cs ds:List AV) (r:Bool) (hx:ev x=.agg cs) (hy:ev y=.agg ds) (hp:lK P 20 t=true) (hg:P.eqGuardType P.depth t=false) (iE:∃fs,P.underlying t=some (.struct fs))
  (hc:cs.length=P.cellsOf t) (hd:ds.length=P.cellsOf t) (h:lJ P 20 t cs ds 0=some r):dp P G ev ol id (.binOp .neq t x y t') (.bool !r) [] []
 |tT (t t' e:TypeId) (x:Operand) (xs:List (List AV)) (hx:ev x=.sl xs) (ht:P.underlying t=some (.slice e)):
  dp P G ev ol id (.binOp .eql t x (.const (.slice none 0 0)) t') (.eR (xs=[])) [] []
 |kF (x:Operand) (ts:Array TypeId) (args:Array Operand) (t e:TypeId) (o z:Nat) (y:AO) (rs:List (List AV)) (ha:args[0]? =some x) (ui:ts[0]? =some t) (ht:P.underlying t=some (.slice e))
  (h:ev x=.bf o z) (ho:ol o=some y) (hy:y=.rows true rs∨y=.rows false rs∨y=.dD rs):
  dp P G ev ol id (.call {callee:=.builtin .len,args:=args,argTypes:=ts}) (.int .i64 rs.length) [] [o]
 |call (fn:Operand) (args:Array Operand) (ts:Array TypeId) (f:Nat) (cap:List AV) (V:bL) (n:Nat) (bY:List AV) (rv:AV)
  (h:ev fn=.fn f cap) (hv:kX (gi V ol n) (args.toList.map ev++cap)=some bY) (hf:FC P G f [] bY rv []) (oc:flat rv=true):
  dp P G ev ol id (.call {callee:=.value fn,args:=args,argTypes:=ts}) rv [] V
 |nw (fn:Operand) (args:Array Operand) (ts:Array TypeId) (f:Nat) (cap:List AV) (V:bL) (n:Nat) (bY:List AV) (rv:AV)
  (cr:List (Nat×AO)) (U:List (Nat×Option AO))
  (h:ev fn=.fn f cap) (hv:kX (gi V ol n) (args.toList.map ev++cap)=some bY) (hf:FC P G f [] bY rv cr) (hU:frozen V ol n=some U):
  dp P G ev ol id (.call {callee:=.value fn,args:=args,argTypes:=ts}) (cY (id+ ·) rv) (U++qd id cr) V
 |lX (fn:Operand) (args:Array Operand) (ts:Array TypeId) (f:Nat) (cap:List AV) (V:bL) (cQ:List (Nat×AO)) (bY:List AV) (rv:AV) (cr:List (Nat×AO))
  (h:ev fn=.fn f cap) (hh:sI V id ol (args.toList.map ev++cap) cQ bY) (hf:FC P G f cQ bY rv cr):
  dp P G ev ol id (.call {callee:=.value fn,args:=args,argTypes:=ts}) (cY (bk V id) rv) (hZ V id cr) V
end Go.Ab
