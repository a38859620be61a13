import Derived.Test.YtjpmdkgonlmddaaGreatDoorAbA
import Derived.Laws.Cover1
set_option linter.unusedVariables false
namespace Go.Ab
def kindT(P:Program)(t:TypeId):Option (Bool×Nat):=
 match P.underlying t with
 |none=>none
 |some d=>match P.info? t with
  |none=>none
  |some i=>some (match d with|.struct _=>true|.array .. =>true|_=>false,i.size)
theorem Zbs{P:Program}{t:TypeId}{i:TypeInfo}(h:P.info? t=some i)(w:World):(sizeOf t).run P w=.ok i.size w:=by
 simp[sizeOf,typeInfo,h]
theorem Zd2{P:Program}{t:TypeId}{b:Bool}{n:Nat}(h:kindT P t=some (b,n))(w:World):
 (isAgg t).run P w=.ok b w∧(sizeOf t).run P w=.ok n w:=by
 unfold kindT at h;split at h
 ·cases h
 ·rename_i d hd
  split at h
  ·cases h
  ·rename_i i hi
   simp only[Y1,Ws]at h
   obtain⟨h1,rfl⟩:=h
   refine⟨?_,Zbs hi w⟩
   unfold isAgg;simp only[Y6,Y5 hd,Result.andThen_ok];subst h1
   cases d<;>rfl
def Zmv(P:Program)(s:TypeId)(f:Nat):Option Field:=
 match P.underlying s with
 |some (.struct fs)=>fs[f]?
 |_=>none
def Zgh(P:Program)(t:TypeId)(row:List AV)(c:Nat):Option AV:=
 match kindT P t with
 |some (true,n)=>if c+n≤row.length then some (.agg ((row.drop c).take n))else none
 |some (false,_)=>row[c]?
 |none=>none
def ZnC:Value→AV
 |.int k n=>.int k n
 |.bool b=>.bool b
 |.string s=>.str s.data.toList
 |.slice none 0 0=>.esl
 |.pointer none=>.con (.pointer none)
 |.map none=>.con (.map none)
 |.nilFunc=>.con .nilFunc
 |.nilIface=>.con .nilIface
 |_=>.undef
def ofVal:Value→AV
 |.agg cs=>.agg (cs.toList.map ZnC)
 |v=>ZnC v
theorem ZkP{S:Nat→Prop}{w:World}(v:Value):IRep S w (ZnC v) v:=by
 unfold ZnC
 split<;>first|exact .int _ _|exact .bool _|exact .str _|exact .esl _|exact .con _ rfl|exact .undef _
theorem Zfd{S:Nat→Prop}{w:World}(v:Value):IRep S w (ofVal v) v:=by
 unfold ofVal;split
 ·rename_i cs
  refine .agg _ cs (by simp) (fun j x v hx hv=>?_)
  rw[Yl]at hx
  have:cs.toList[j]? =some v:=by simpa using hv
  rw[this]at hx;simp only[Yq,Y1]at hx;subst hx;exact ZkP v
 ·exact ZkP _
def evA(G:Gmap)(g:Nat→AV):Operand→AV
 |.tmp t=>g t
 |.const v=>ofVal v
 |.global n=>match G n with|some row=>.rp row 0|none=>.undef
 |.func f=>bif Nat.blt f FB then .fn f []else .undef
theorem Inv.ev{C:Cx}{S:Nat→Prop}{ι:Imap}{un:Nat→Prop}{f:FS}{a:Act}{w:World}
 (h:Inv C S ι un f a w) (x:Operand):Rep S w ι (evA C.G f.g x) (a.eval x):=by
 cases x with
 |tmp t=>exact h.tm t
 |const v=>exact .imm _ _ (Zfd v)
 |global n=>
  simp only[evA,Act.eval];split
  ·rename_i row hr;exact .imm _ _ (h.gv n row hr).1
  ·exact .imm _ _ (.undef _)
 |func g=>
  simp only[evA,Act.eval]
  cases hg:Nat.blt g FB with
  |true=>
   simp only[Y4]
   have:=IRep.fn (S:=S) (w:=w) g [] #[] rfl (fun j x v hx=>by simp)
   rw[Zkf hg]at this;exact .imm _ _ this
  |false=>exact .imm _ _ (.undef _)
def ibits(op:BinOp)(k:IntKind)(x y:Int):Int:=
 k.wrap ((match op with
  |.and=>BitVec.ofInt k.bits x&&& BitVec.ofInt k.bits y
  |.or=>BitVec.ofInt k.bits x|||BitVec.ofInt k.bits y
  |.xor=>BitVec.ofInt k.bits x^^^BitVec.ofInt k.bits y
  |_=>BitVec.ofInt k.bits x&&& ~~~(BitVec.ofInt k.bits y):BitVec k.bits).toNat)
def ibin(op:BinOp)(k:IntKind)(a b:Int):Option AV:=
 match op with
 |.add=>some (.int k (k.wrap (a+b)))
 |.sub=>some (.int k (k.wrap (a-b)))
 |.mul=>some (.int k (k.wrap (a*b)))
 |.and=>some (.int k (ibits .and k a b))
 |.or=>some (.int k (ibits .or k a b))
 |.xor=>some (.int k (ibits .xor k a b))
 |.andNot=>some (.int k (ibits .andNot k a b))
 |.eql=>some (.bool (a==b))
 |.neq=>some (.bool (a != b))
 |.lss=>some (.bool (decide (a<b)))
 |.leq=>some (.bool (decide (a≤b)))
 |.gtr=>some (.bool (decide (b<a)))
 |.geq=>some (.bool (decide (b≤a)))
 |_=>none
def sbin(op:BinOp)(a b:List UInt8):Option AV:=
 match op with
 |.eql=>some (.bool (a==b))
 |.neq=>some (.bool (!(a==b)))
 |.lss=>some (.bool (Op.bytesLess a b))
 |.leq=>some (.bool (Op.bytesLess a b||a==b))
 |.gtr=>some (.bool (!(Op.bytesLess a b||a==b)))
 |.geq=>some (.bool (!Op.bytesLess a b))
 |_=>none
def eqFsG(rc:TypeId→List AV→List AV→Nat→Option Bool):List Field→List AV→List AV→Nat→Option Bool
 | [],_,_,_=>some true
 |f::r,xs,ys,c=>match rc f.type xs ys (c+f.offset),eqFsG rc r xs ys c with
  |some a,some b=>some (a&&b)
  |_,_=>none
def Zdj(P:Program):Nat→TypeId→List AV→List AV→Nat→Option Bool
 |0,_,_,_,_=>none
 |d+1,t,xs,ys,c=>
  match P.underlying t with
  |some (.int _)=>match xs[c]?,ys[c]? with|some (.int k a),some (.int k' b)=>if k=k' then some (a==b)else none|_,_=>none
  |some .string=>match xs[c]?,ys[c]? with|some (.str a),some (.str b)=>some (a==b)|_,_=>none
  |some .bool=>match xs[c]?,ys[c]? with|some (.bool a),some (.bool b)=>some (a==b)|_,_=>none
  |some (.struct fs)=>eqFsG (Zdj P d) fs.toList xs ys c
  |_=>none
def Zdi(P:Program):Nat→TypeId→Bool
 |0,_=>false
 |d+1,t=>
  match P.underlying t with
  |some (.struct fs)=>!P.stoodInHeld t&&(kindT P t).isSome&&fs.all fun f=>f.name != "_" &&Zdi P d f.type&&decide (f.offset+P.cellsOf f.type≤P.cellsOf t)
  |some (.int _)|some .string|some .bool=>P.cellsOf t==1
  |_=>false
def bin(P:Program)(op:BinOp)(t:TypeId)(x y:AV):Option AV:=
 match x,y with
 |.int k a,.int k' b=>if k=k' then ibin op k a b else none
 |.str a,.str b=>sbin op a b
 |.bool a,.bool b=>match P.underlying t with
  |some .bool=>(match op with|.eql=>some (.bool (a==b))|.neq=>some (.bool (!(a==b)))|_=>none)
  |_=>none
 |.ptr ..,.con (.pointer none)|.con (.pointer none),.ptr .. |.rp ..,.con (.pointer none)|.con (.pointer none),.rp .. =>match P.underlying t with
  |some (.pointer _)=>(match op with|.eql=>some (.bool false)|.neq=>some (.bool true)|_=>none)
  |_=>none
 |.con (.pointer none),.con (.pointer none)=>match P.underlying t with
  |some (.pointer _)=>(match op with|.eql=>some (.bool true)|.neq=>some (.bool false)|_=>none)
  |_=>none
 |_,_=>none
def una(op:UnOp)(x:AV):Option AV:=
 match op,x with
 |.neg,.int k n=>some (.int k (k.wrap (0-n)))
 |.xor,.int k n=>some (.int k (ibits .xor k (if k.signed then -1 else k.max) n))
 |.not,.bool b=>some (.bool !b)
 |_,_=>none
def fillA(ev:Operand→AV)(place:Nat→Option (Nat×Nat)):List (Nat×Operand)→List AV→Option (List AV)
 | [],cs=>some cs
 |(i,x)::r,cs=>
  match place i,ZbE (ev x)with
  |some (off,n),some vs=>if vs.length=n∧off+n≤cs.length then fillA ev place r (setAt cs off vs)else none
  |_,_=>none
def zeroA(P:Program)(t:TypeId):Option (List AV):=
 match P.info? t with
 |none=>none
 |some i=>match i.zero with
  |some v=>ZbE (ofVal v)
  |none=>none
def Znx(P:Program)(fs:Array Field)(i:Nat):Option (Nat×Nat):=
 match fs[i]? with
 |some f=>match P.info? f.type with|some j=>some (f.offset,j.size)|none=>none
 |none=>none
def Zkp(P:Program)(ev:Operand→AV)(t:TypeId)(parts:Array (Nat×Operand)):Option AV:=
 match zeroA P t with
 |none=>none
 |some z=>match P.underlying t with
  |some (.struct fs)=>if(fs.toList.all fun f=>(P.info? f.type).isSome)=true then(fillA ev (Znx P fs) parts.toList z).map .agg else none
  |some (.array _ e)=>match P.info? e with
   |some j=>(fillA ev (fun i=>some (i*j.size,j.size)) parts.toList z).map .agg
   |none=>none
  |_=>none
def lenOp(P:Program)(t:TypeId)(x:AV):Option AV:=
 match P.underlying t,x with
 |some .string,.str l=>some (.int .i64 l.length)
 |some (.slice _),.sl xs=>some (.int .i64 xs.length)
 |some (.slice _),.osl _ _ n _=>some (.int .i64 n)
 |some (.slice _),.esl=>some (.int .i64 0)
 |some (.array n _),_=>some (.int .i64 n)
 |_,_=>none
def pval(P:Program)(ev:Operand→AV):Op→Option AV
 |.move x=>some (ev x)
 |.assign x=>some (ev x)
 |.fieldAddr s x i=>match Zmv P s i with
  |none=>none
  |some fd=>match kindT P fd.type with
   |some (_,_+1)=>(match ev x with|.ptr o r c=>some (.ptr o r (c+fd.offset))|.rp row c=>some (.rp row (c+fd.offset))|_=>none)
   |_=>none
 |.field s x i=>match Zmv P s i with
  |none=>none
  |some fd=>match ev x with|.agg cs=>Zgh P fd.type cs fd.offset|_=>none
 |.unOp op _ x=>una op (ev x)
 |.binOp op t x y _=>bin P op t (ev x) (ev y)
 |.extract t i=>match ev t with|.tup vs=>vs[i]? |_=>none
 |.build t parts=>Zkp P ev t parts
 |.makeFunc (.func f) first cap=>bif first.isEmpty then(bif Nat.blt f FB then some (.fn f (cap.toList.map ev))else none)else(bif cap.isEmpty then some (.fn (FB+f) (first.toList.map ev))else none)
 |.nilCheck x=>match ev x with|.ptr o r c=>some (.ptr o r c)|.rp row c=>some (.rp row c)|.fn f c=>some (.fn f c)|_=>none
 |.convert s d x=>match P.underlying s,P.underlying d,ev x with
  |some _,some (.int k),.int _ n=>some (.int k (k.wrap n))
  |some _,some .string,.str l=>some (.str l)
  |_,_,_=>none
 |.call {callee:=.builtin .len,args,argTypes}=>match argTypes[0]?,args[0]? with
  |some t,some x=>lenOp P t (ev x)
  |_,_=>none
 |.call {callee:=.builtin .max,args,..}=>match args.toList with
  | [x,y]=>(match ev x,ev y with
   |.int k a,.int _ b=>some (.int k (if b>a then b else a))
   |.str a,.str b=>some (.str (if !Op.bytesLess a b then a else b))
   |_,_=>none)
  |_=>none
 |.call {callee:=.builtin .min,args,..}=>match args.toList with
  | [x,y]=>(match ev x,ev y with
   |.int k a,.int _ b=>some (.int k (if b<a then b else a))
   |_,_=>none)
  | [x,y,z]=>(match ev x,ev y,ev z with
   |.int k a,.int _ b,.int _ c=>some (.int k (if c<(if b<a then b else a)then c else(if b<a then b else a)))
   |_,_,_=>none)
  |_=>none
 |_=>none
section
variable {S:Nat→Prop}{w:World}{ι:Imap}{P:Program}
theorem RepL.get{cs:List AV}{vs:List Value}(h:RepL S w ι cs vs){j:Nat}{x:AV}(hx:cs[j]? =some x):∃v,vs[j]? =some v∧Rep S w ι x v:=by
 have hj:j<cs.length:=by
  rcases YX j cs.length with h|h
  ·exact h
  ·simp_all
 have:j<vs.length:=by rw[←h.1];exact hj
 exact⟨vs[j],Y3 this,h.2 j x _ hx (Y3 this)⟩
theorem RepL.agg{cs:List AV}{vs:Array Value}(h:RepL S w ι cs vs.toList):Rep S w ι (.agg cs) (.agg vs):=
 .agg _ _ (by simpa using h.1) (fun j x v hx hv=>h.2 j x v hx (by simp_all))
theorem Zpi{t:TypeId}{cs:List AV}{vs:Array Value}(h:RepL S w ι cs vs.toList){c:Nat}{x:AV}(hl:Zgh P t cs c=some x):
 ∃v,(part t vs c).run P w=.ok v w∧Rep S w ι x v:=by
 unfold Zgh at hl;split at hl
 ·rename_i n hk
  split at hl
  ·rename_i hc
   injection hl with hl
   subst hl
   obtain⟨h1,h2⟩:=Zd2 hk w
   refine⟨.agg (vs.extract c (c+n)),by unfold part;simp[h1,h2],?_⟩
   have e:(vs.extract c (c+n)).toList=(vs.toList.drop c).take n:=by
    simp[Array.toList_extract,List.extract_eq_take_drop]
   have hr:=(h.drop c).take n
   rw[←e]at hr;exact hr.agg
  grind
 ·rename_i n hk
  obtain⟨h1,h2⟩:=Zd2 hk w
  obtain⟨v,hv,hr⟩:=h.get hl
  refine⟨v,?_,hr⟩
  have:vs[c]? =some v:=by simpa using hv
  unfold part;simp_all
 grind
theorem ZnY(a b:List UInt8):((⟨a.toArray⟩:ByteArray)==⟨b.toArray⟩)=(a==b):=by
 rw[beq_toListBytes];simp
theorem ZjW{t e:TypeId}(ht:P.underlying t=some (.pointer e))(d:Nat)(a b:Option Addr){r:Bool}
 (h:(match a,b with|none,b=>some b.isNone|_,none=>some false|_,_=>none)=some r):
 (Op.equalIn (d+1) t (.pointer a) (.pointer b)).run P w=.ok r w:=by
 cases a<;>cases b<;>simp only[Y1,reduceCtorEq]at h<;>subst h<;>simp[Op.equalIn,Y5 ht]
theorem ZjX{t e:TypeId}(ht:P.underlying t=some (.pointer e))(a b:Option Addr){r:Bool}(h:(match a,b with|none,b=>some b.isNone|_,none=>some false|_,_=>none)=some r):
 (binOp .eql t (.pointer a) (.pointer b)).run P w=.ok (.bool r) w:=by
 have:=ZjW (w:=w) ht 9999 a b h
 have h2:(Op.equal t (.pointer a) (.pointer b)).run P w=.ok r w:=this
 simp only[binOp];simp[h2]
theorem ZjV{t e:TypeId}(ht:P.underlying t=some (.pointer e))(a b:Option Addr){r:Bool}(h:(match a,b with|none,b=>some b.isNone|_,none=>some false|_,_=>none)=some r):
 (binOp .neq t (.pointer a) (.pointer b)).run P w=.ok (.bool !r) w:=by
 have:=ZjW (w:=w) ht 9999 a b h
 have h2:(Op.equal t (.pointer a) (.pointer b)).run P w=.ok r w:=this
 simp only[binOp];simp[h2]
theorem Ztn{op:BinOp}{t:TypeId}{x y v:AV}{x' y':Value}(h:bin P op t x y=some v)(hx:Rep S w ι x x')(hy:Rep S w ι y y')(ox oy:Operand):
 ∃v',(do eqGuard op t ox oy x' y';binOp op t x' y':Sem Value).run P w=.ok v' w∧Rep S w ι v v':=by
 unfold bin at h;split at h
 ·
  rw[hx.int_inv,hy.int_inv];rename_i k a k' b;split at h
  ·rename_i e
   subst e;simp only[eqGuard_at_int,Y6,Sem.run_pure,Result.andThen_ok];unfold ibin at h
   cases op<;>simp only[Y1,reduceCtorEq]at h<;>subst h
   all_goals first
    |(refine⟨_,?_,.imm _ _ (.int _ _)⟩;simp only[binOp_add,binOp_sub,binOp_mul,Op.intArith,Sem.run_pure];done)
    |(refine⟨_,?_,.imm _ _ (.int _ _)⟩;simp only[binOp_and,binOp_or,binOp_xor,binOp_andNot,Op.intBits,ibits,Sem.run_pure];done)
    |(refine⟨_,?_,.imm _ _ (.bool _)⟩;simp only[binOp_eql,binOp_neq,binOp_lss,binOp_leq,binOp_gtr,binOp_geq,Sem.run_pure];done)
    |(refine⟨_,?_,.imm _ _ (.bool _)⟩;simp only[binOp_eql,binOp_neq,binOp_lss,binOp_leq,binOp_gtr,binOp_geq,Sem.run_pure];rfl)
  ·cases h
 ·
  rw[hx.str_inv,hy.str_inv];rename_i a b;simp only[eqGuard_at_string,Y6,Sem.run_pure,Result.andThen_ok];unfold sbin at h
  cases op<;>simp only[Y1,reduceCtorEq]at h<;>subst h
  all_goals (refine⟨_,?_,.imm _ _ (.bool _)⟩;simp[binOp,Op.stringOp])
 ·
  rw[hx.bool_inv,hy.bool_inv];split at h
  ·rename_i ht
   simp only[eqGuard_at_bool,Y6,Sem.run_pure,Result.andThen_ok];split at h
   ·injection h with h;subst h
    exact⟨_,run_eql_bool w t _ _ ht,.imm _ _ (.bool _)⟩
   ·injection h with h;subst h
    exact⟨_,run_neq_bool w t _ _ ht,.imm _ _ (.bool _)⟩
   ·cases h
  ·cases h
 ·
  obtain⟨l,_,rfl⟩:=hx.ptr_inv
  rw[hy.con_inv];split at h
  ·rename_i e ht
   simp only[WO,Y6,Sem.run_pure,Result.andThen_ok];split at h
   ·injection h with h;subst h
    exact⟨_,ZjX ht _ _ rfl,.imm _ _ (.bool _)⟩
   ·injection h with h;subst h
    exact⟨_,ZjV ht _ _ rfl,.imm _ _ (.bool _)⟩
   ·cases h
  ·cases h
 ·obtain⟨l,_,rfl⟩:=hy.ptr_inv
  rw[hx.con_inv];split at h
  ·rename_i e ht
   simp only[WO,Y6,Sem.run_pure,Result.andThen_ok];split at h
   ·injection h with h;subst h
    exact⟨_,ZjX ht _ _ rfl,.imm _ _ (.bool _)⟩
   ·injection h with h;subst h
    exact⟨_,ZjV ht _ _ rfl,.imm _ _ (.bool _)⟩
   ·cases h
  ·cases h
 ·have:∃p,x'=.pointer (some p):=by cases hx with|imm _ _ h=>cases h;simp
  obtain⟨p,rfl⟩:=this
  rw[hy.con_inv];split at h
  ·rename_i e ht
   simp only[WO,Y6,Sem.run_pure,Result.andThen_ok];split at h
   ·injection h with h;subst h
    exact⟨_,ZjX ht _ _ rfl,.imm _ _ (.bool _)⟩
   ·injection h with h;subst h
    exact⟨_,ZjV ht _ _ rfl,.imm _ _ (.bool _)⟩
   ·cases h
  ·cases h
 ·have:∃p,y'=.pointer (some p):=by cases hy with|imm _ _ h=>cases h;simp
  obtain⟨p,rfl⟩:=this
  rw[hx.con_inv];split at h
  ·rename_i e ht
   simp only[WO,Y6,Sem.run_pure,Result.andThen_ok];split at h
   ·injection h with h;subst h
    exact⟨_,ZjX ht _ _ rfl,.imm _ _ (.bool _)⟩
   ·injection h with h;subst h
    exact⟨_,ZjV ht _ _ rfl,.imm _ _ (.bool _)⟩
   ·cases h
  ·cases h
 ·rw[hx.con_inv,hy.con_inv]
  split at h
  ·rename_i e ht
   simp only[WO,Y6,Sem.run_pure,Result.andThen_ok];split at h
   ·injection h with h;subst h
    exact⟨_,ZjX ht _ _ rfl,.imm _ _ (.bool _)⟩
   ·injection h with h;subst h
    exact⟨_,ZjV ht _ _ rfl,.imm _ _ (.bool _)⟩
   ·cases h
  ·cases h
 ·cases h
theorem Zrh(off:Nat):∀(vs:List Value) (k:Nat) (cells:Array Value),off+k+vs.length≤cells.size→
 ((vs.zipIdx k).foldl (fun cs (x:Value×Nat)=>cs.setIfInBounds (off+x.2) x.1) cells).toList=setAt cells.toList (off+k) vs:=by
 intro vs
 induction vs with
 |nil=>
  intro k cells h;simp only[List.zipIdx_nil,List.foldl_nil,setAt,YO,Yx,Nat.add_zero];simp
 |cons v r ih=>
  intro k cells h;simp only[Yf]at h;simp only[List.zipIdx_cons,List.foldl_cons]
  rw[ih (k+1) _ (by grind)]
  apply Ve;intro j
  rw[Zf9 _ _ _ (by grind),Zf9 _ _ _ (by omega)]
  grind
theorem ZlC{ev:Operand→AV}{ρ:Operand→Value}(hr:∀x,Rep S w ι (ev x) (ρ x))(place:Nat→Option (Nat×Nat)):
 ∀(parts:List (Nat×Operand)) (cs:List AV) (cells:Array Value) (out:List AV),RepL S w ι cs cells.toList→fillA ev place parts cs=some out→
  ∃cells',Instr.fill place cells (parts.map fun x=>(x.1,ρ x.2))=some cells'∧RepL S w ι out cells'.toList:=by
 intro parts
 induction parts with
 |nil=>
  intro cs cells out hc h;simp only[fillA,Y1]at h;subst h;exact⟨cells,rfl,hc⟩
 |cons p r ih=>
  intro cs cells out hc h
  obtain⟨i,x⟩:=p
  simp only[fillA]at h;split at h
  ·rename_i off n vs hp hv
   split at h
   ·rename_i hcond
    obtain⟨hvr,_⟩:=ZeD hv (hr x)
    have hl:=hvr.1
    have hcl:=hc.1
    have hsz:(ρ x).cells.size=n:=by rw[←Array.length_toList,←hl];exact hcond.1
    have hfold:=Zrh off (ρ x).cells.toList 0 cells (by simp_all)
    have hnew:RepL S w ι (setAt cs off vs) ((ρ x).cells.zipIdx.foldl (fun cs (x:Value×Nat)=>cs.setIfInBounds (off+x.2) x.1) cells).toList:=by
     rw[←Array.foldl_toList,Array.toList_zipIdx,hfold]
     exact RepL.setAt off hc hvr (by omega)
    obtain⟨cells',h1,h2⟩:=ih _ _ out hnew h
    refine⟨cells',?_,h2⟩
    simp only[Yp,Instr.fill,hp];simp_all
   ·cases h
  ·cases h
theorem ZjR(P:Program)(w:World):∀(fs:List Field),(fs.all fun f=>(P.info? f.type).isSome)=true→
 (fs.mapM (fun f=>do pure (f.offset,←sizeOf f.type)):Sem (List (Nat×Nat))).run P w=.ok (fs.map fun f=>(f.offset,((P.info? f.type).map (·.size)).getD 0)) w:=by
 intro fs
 induction fs with
 |nil=>simp
 |cons f r ih=>
  intro h;simp only[List.all_cons,Y8]at h
  obtain⟨i,hi⟩:=YQ.1 h.1
  simp only[List.mapM_cons,Y6,Zbs hi,Result.andThen_ok,Sem.run_pure,ih h.2,Yp,hi,Yq,Yu]
theorem ZnZ{ev:Operand→AV}{ρ:Operand→Value}(hr:∀x,Rep S w ι (ev x) (ρ x)){t:TypeId}{parts:Array (Nat×Operand)}{v:AV}
 (h:Zkp P ev t parts=some v):∃v',(Instr.build t (parts.map fun(i,x)=>(i,ρ x))).run P w=.ok v' w∧Rep S w ι v v':=by
 unfold Zkp at h;split at h
 ·cases h
 ·rename_i z hz
  unfold zeroA at hz;split at hz
  ·cases hz
  ·rename_i i hi
   split at hz
   ·rename_i zv hzv
    have hzero:(zeroValue t).run P w=.ok zv w:=by simp[zeroValue,typeInfo,hi,hzv]
    obtain⟨hzr,_⟩:=ZeD hz (Rep.imm (S:=S) (w:=w) (ι:=ι) _ _ (Zfd zv))
    have hpl:(parts.map fun(i,x)=>(i,ρ x)).toList=parts.toList.map fun x=>(x.1,ρ x.2):=by simp
    split at h
    ·rename_i fs ht
     split at h
     ·rename_i hall
      simp only[Ye]at h
      obtain⟨out,ho,rfl⟩:=h
      have hplace:(fun i=>(fs.toList.map fun f=>(f.offset,((P.info? f.type).map (·.size)).getD 0)).toArray[i]?)=Znx P fs:=by
       funext j
       simp only[Znx,List.getElem?_toArray,Yl,Wg]
       cases hj:fs[j]? with
       |none=>rfl
       |some f=>
        grind
      obtain⟨cells',h1,h2⟩:=ZlC hr (Znx P fs) parts.toList z zv.cells out hzr ho
      refine⟨.agg cells',?_,h2.agg⟩
      unfold Instr.build
      have hm:(fs.mapM (fun f=>do pure (f.offset,←sizeOf f.type)):Sem (Array (Nat×Nat))).run P w=
       .ok (fs.toList.map fun f=>(f.offset,((P.info? f.type).map (·.size)).getD 0)).toArray w:=by
       rw[Array.mapM_eq_mapM_toList];simp only[Sem.run_map,ZjR P w fs.toList hall,Result.andThen_ok]
      simp only[Y6,hzero,Result.andThen_ok,Y5 ht,hm,hpl];simp_all
     ·cases h
    ·rename_i n e ht
     split at h
     ·rename_i j hj
      simp only[Ye]at h
      obtain⟨out,ho,rfl⟩:=h
      obtain⟨cells',h1,h2⟩:=ZlC hr (fun i=>some (i*j.size,j.size)) parts.toList z zv.cells out hzr ho
      refine⟨.agg cells',?_,h2.agg⟩
      unfold Instr.build;simp only[Y6,hzero,Result.andThen_ok,Y5 ht,Zbs hj,hpl];simp_all
     ·cases h
    ·cases h
   grind
theorem Ztd{t ty:TypeId}{x v:AV}{x':Value}(h:lenOp P t x=some v)(hx:Rep S w ι x x')(ts:Array TypeId)(hts:ts[0]? =some t)(xs:Array Value)(hxs:xs[0]? =some x'):
 ∃v',(Builtin.len_ ts ty xs).run P w=.ok v' w∧Rep S w ι v v':=by
 unfold lenOp at h;split at h
 ·rename_i l ht
  injection h with h;subst h
  rw[hx.str_inv]at hxs
  have e:(⟨l.toArray⟩:ByteArray).size=l.length:=by show l.toArray.size=_;simp
  exact⟨.int .i64 l.length,by simp[Builtin.len_,hts,hxs,Y5 ht,goInt,e],.imm _ _ (.int _ _)⟩
 ·rename_i e xs' ht
  injection h with h;subst h
  refine⟨.int .i64 xs'.length,?_,.imm _ _ (.int _ _)⟩
  cases hx with
  |imm _ _ hx=>cases hx<;>simp[Builtin.len_,hts,hxs,Y5 ht,goInt]
 ·rename_i e o off n room ht
  injection h with h;subst h
  refine⟨.int .i64 n,?_,.imm _ _ (.int _ _)⟩
  cases hx with
  |imm _ _ hx=>cases hx
  |osl=>simp[Builtin.len_,hts,hxs,Y5 ht,goInt]
  |oslv=>simp[Builtin.len_,hts,hxs,Y5 ht,goInt]
 ·rename_i e ht
  injection h with h;subst h
  refine⟨.int .i64 0,?_,.imm _ _ (.int _ _)⟩
  cases hx with
  |imm _ _ hx=>cases hx;simp[Builtin.len_,hts,hxs,Y5 ht,goInt]
 ·rename_i n e ht
  injection h with h;subst h
  exact⟨.int .i64 n,by simp[Builtin.len_,hts,hxs,Y5 ht,goInt],.imm _ _ (.int _ _)⟩
 ·cases h
end
section
variable {S:Nat→Prop}{w:World}{ι:Imap}{P:Program}
theorem Zgn(b o n:Nat):(⟨b,o,none⟩:Addr).add n=⟨b,o+n,none⟩:=Addr.add_lit b o n
theorem RepL.fnr{f:Nat}{cs:List AV}{vs:Array Value}(h:RepL S w ι cs vs.toList):Rep S w ι (.fn f cs) (fnV f vs):=
 .fn _ _ _ (by simpa using h.1) (fun j x v hx hv=>h.2 j x v hx (by simp_all))
theorem RepL.tupr{cs:List AV}{vs:Array Value}(h:RepL S w ι cs vs.toList):Rep S w ι (.tup cs) (.tuple vs):=
 .tup _ _ (by simpa using h.1) (fun j x v hx hv=>h.2 j x v hx (by simp_all))
theorem RepL.map{α:Type}{e:α→AV}{ρ:α→Value}(h:∀x,Rep S w ι (e x) (ρ x))(l:List α):RepL S w ι (l.map e) (l.map ρ):=by
 refine⟨by simp,fun j x v hx hv=>?_⟩
 grind
theorem Zjq{s:TypeId}{i:Nat}{fd:Field}{n:Nat}{b:Bool}(hf:Zmv P s i=some fd)(hk:kindT P fd.type=some (b,n+1))(bl o:Nat):
 (Instr.fieldAt s (.pointer (some ⟨bl,o,none⟩)) i).run P w=.ok (.pointer (some ⟨bl,o+fd.offset,none⟩)) w:=by
 unfold Zmv at hf;split at hf
 ·rename_i fs hs
  obtain⟨_,h2⟩:=Zd2 hk w
  unfold Instr.fieldAt fieldPlace;simp only[Y6,Y5 hs,Result.andThen_ok,hf,Instr.sureAddr,Sem.run_pure,h2,Nat.add_one_ne_zero,Y9,Zgn]
 grind
theorem Zsi{ev:Operand→AV}{ρ:Operand→Value}(hr:∀x,Rep S w ι (ev x) (ρ x))(o:Oper){v:AV}(h:pval P ev o.op=some v):
 ∃v',(execOp ρ o).run P w=.ok (.value v') w∧Rep S w ι v v':=by
 have lift:∀(s:Sem Value),(∃v',s.run P w=.ok v' w∧Rep S w ι v v')→∃v',(do pure (Next.value (←s)):Sem Next).run P w=.ok (.value v') w∧Rep S w ι v v':=by
  rintro s ⟨v',h1,h2⟩
  exact⟨v',by simp_all,h2⟩
 unfold pval at h;split at h
 ·rename_i x ho
  injection h with h;subst h
  exact⟨ρ x,by unfold execOp;rw[ho];rfl,hr x⟩
 ·rename_i x ho
  injection h with h;subst h
  exact⟨ρ x,by unfold execOp;rw[ho];rfl,hr x⟩
 ·
  rename_i s x i ho;split at h
  ·cases h
  ·rename_i fd hf
   split at h
   ·rename_i bb n hk
    have hx:=hr x
    unfold execOp;rw[ho]
    refine lift _ ?_
    split at h
    ·rename_i ob r c hev
     injection h with h;subst h
     rw[hev]at hx
     obtain⟨l,hl,hv⟩:=hx.ptr_inv
     rw[hv]
     refine⟨_,Zjq hf hk _ _,?_⟩
     have:=Rep.ptr (S:=S) (w:=w) ob r (c+fd.offset) l hl
     grind
    ·rename_i row c hev
     injection h with h;subst h
     rw[hev]at hx
     cases hx with
     |imm _ _ hx=>
      generalize hrx:ρ x=vx at hx
      cases hx with
      |rp _ _ blk base vals hS hl hcell hrep=>
       refine⟨_,Zjq hf hk _ _,?_⟩
       rw[Wx];exact .imm _ _ (.rp row (c+fd.offset) blk base vals hS hl hcell hrep)
    ·cases h
   ·cases h
 ·
  rename_i s x i ho;split at h
  ·cases h
  ·rename_i fd hf
   have hx:=hr x
   unfold execOp;rw[ho]
   refine lift _ ?_
   split at h
   ·rename_i cs hev
    rw[hev]at hx
    obtain⟨vs,hv,hL⟩:=hx.agg_inv
    unfold Zmv at hf;split at hf
    ·rename_i fs hs
     obtain⟨v',h1,h2⟩:=Zpi hL h
     refine⟨v',?_,h2⟩
     unfold Instr.field;simp only[Y6,Y5 hs,Result.andThen_ok,hf,hv,asAgg,Sem.run_pure];exact h1
    grind
   ·cases h
 ·
  rename_i op t x ho
  have hx:=hr x
  unfold execOp;rw[ho]
  refine lift _ ?_
  unfold una at h;split at h
  ·rename_i k n hev
   injection h with h;subst h
   rw[hev]at hx;rw[hx.int_inv]
   exact⟨_,by rfl,.imm _ _ (.int _ _)⟩
  ·rename_i k n hev
   injection h with h;subst h
   rw[hev]at hx;rw[hx.int_inv]
   exact⟨_,by rfl,.imm _ _ (.int _ _)⟩
  ·rename_i b hev
   injection h with h;subst h
   rw[hev]at hx;rw[hx.bool_inv]
   exact⟨_,by rfl,.imm _ _ (.bool _)⟩
  ·cases h
 ·
  rename_i op t x y t' ho;unfold execOp;rw[ho]
  refine lift _ ?_
  exact Ztn h (hr x) (hr y) x y
 ·
  rename_i t i ho
  have hx:=hr t
  unfold execOp;rw[ho]
  refine lift _ ?_
  split at h
  ·rename_i vs hev
   rw[hev]at hx
   obtain⟨us,hv,hL⟩:=hx.tup_inv
   obtain⟨u,hu,hru⟩:=hL.get h
   rw[hv]
   have hu':us[i]? =some u:=by simpa using hu
   exact⟨u,by simp only[Instr.extract,hu',Sem.run_pure],hru⟩
  ·cases h
 ·
  rename_i t parts ho;unfold execOp;rw[ho]
  refine lift _ ?_
  exact ZnZ hr h
 ·
  rename_i f first cap ho
  unfold execOp;rw[ho]
  refine lift _ ?_
  cases hfirst:first.isEmpty with
  |true=>
   rw[hfirst]at h;simp only[Y4]at h
   cases hlt:Nat.blt f FB with
   |false=>simp_all
   |true=>
    rw[hlt]at h
    injection h with h;subst h
    have hf:first=#[]:=by simpa using hfirst
    subst hf
    refine⟨fnV f (cap.map ρ),by rw[Zkf hlt];simp[Instr.makeFunc],RepL.fnr ?_⟩
    rw[WX];exact RepL.map hr _
  |false=>
   rw[hfirst]at h;simp only[Y7]at h
   cases hcap:cap.isEmpty with
   |false=>simp_all
   |true=>
    rw[hcap]at h
    injection h with h;subst h
    have hf:cap=#[]:=by simpa using hcap
    subst hf
    have hge:Nat.blt (FB+f) FB=false:=by
     cases hb:Nat.blt (FB+f) FB with
     |false=>rfl
     |true=>
      have:=W0 hb
      omega
    refine⟨fnV (FB+f) (first.map ρ),by unfold fnV;rw[hge,Vb];simp[Instr.makeFunc],RepL.fnr ?_⟩
    rw[WX];exact RepL.map hr _
 ·
  rename_i x ho
  have hx:=hr x
  unfold execOp;rw[ho];split at h
  ·rename_i ob r c hev
   injection h with h;subst h
   rw[hev]at hx
   obtain⟨l,hl,hv⟩:=hx.ptr_inv
   simp_all
  ·rename_i row c hev
   injection h with h;subst h
   rw[hev]at hx
   refine⟨ρ x,?_,hx⟩
   have:∃p,ρ x=.pointer (some p):=by
    cases hx with
    |imm _ _ hx=>generalize ρ x=vx at hx⊢;cases hx;simp
   obtain⟨p,hp⟩:=this
   simp_all
  ·rename_i fid cap hev
   injection h with h;subst h
   rw[hev]at hx
   obtain⟨us,hv,hL⟩:=hx.fn_inv
   refine⟨ρ x,?_,hx⟩
   obtain⟨a1,b1,c1,hh⟩:∃a1 b1 c1,fnV fid us=.func (.func a1) b1 c1:=by
    unfold fnV;cases Nat.blt fid FB
    all_goals simp
   simp_all
  ·cases h
 ·
  rename_i s d x ho
  have hx:=hr x
  unfold execOp;rw[ho]
  refine lift _ ?_
  split at h
  ·rename_i ds k k' n hs hd hev
   injection h with h;subst h
   rw[hev]at hx;rw[hx.int_inv]
   exact⟨.int k (k.wrap n),by simp[convert,Y5 hs,Y5 hd,Conv.intToInt],.imm _ _ (.int _ _)⟩
  ·rename_i ds l hs hd hev
   injection h with h;subst h
   rw[hev]at hx;rw[hx.str_inv]
   exact⟨_,by simp[convert,Y5 hs,Y5 hd],.imm _ _ (IRep.str_mk l)⟩
  ·cases h
 ·
  rename_i args ts ho;unfold execOp;rw[ho];split at h
  ·rename_i t x ht hx
   obtain⟨v',h1,h2⟩:=Ztd (ty:=o.type) h (hr x) ts ht (args.map ρ) (by simp[hx])
   refine⟨v',?_,h2⟩
   simp only[resolve,invoke,builtin,Y6,Sem.run_pure,Result.andThen_ok,h1]
  ·cases h
 ·
  rename_i args ts ho;unfold execOp;rw[ho];split at h
  ·rename_i x y hl
   have ha:args=#[x,y]:=by apply Array.ext';simpa using hl
   subst ha
   have hx:=hr x;have hy:=hr y
   split at h
   ·rename_i k a k' b hev1 hev2
    injection h with h;subst h
    rw[hev1]at hx;rw[hev2]at hy
    refine⟨.int k (if b>a then b else a),?_,.imm _ _ (.int _ _)⟩
    simp[resolve,invoke,builtin,hx.int_inv,hy.int_inv,run_max_int2]
   ·rename_i a b hev1 hev2
    injection h with h;subst h
    rw[hev1]at hx;rw[hev2]at hy
    refine⟨.string ⟨(if !Op.bytesLess a b then a else b).toArray⟩,?_,.imm _ _ (IRep.str_mk _)⟩
    simp only[resolve,invoke,builtin,Y6,Sem.run_pure,Result.andThen_ok,List.map_toArray,Yp,List.map_nil,hx.str_inv,hy.str_inv,Builtin.max_];simp[Builtin.max2,Op.stringOp,asBool]
    grind
   ·cases h
  ·cases h
 ·
  rename_i args ts ho;unfold execOp;rw[ho];split at h
  ·rename_i x y hl
   have ha:args=#[x,y]:=by apply Array.ext';simpa using hl
   subst ha
   have hx:=hr x;have hy:=hr y
   split at h
   ·rename_i k a k' b hev1 hev2
    injection h with h;subst h
    rw[hev1]at hx;rw[hev2]at hy
    refine⟨.int k (if b<a then b else a),?_,.imm _ _ (.int _ _)⟩
    simp[resolve,invoke,builtin,hx.int_inv,hy.int_inv,run_min_int2]
   ·cases h
  ·rename_i x y z hl
   have ha:args=#[x,y,z]:=by apply Array.ext';simpa using hl
   subst ha
   have hx:=hr x;have hy:=hr y;have hz:=hr z
   split at h
   ·rename_i k a k' b k'' c hev1 hev2 hev3
    injection h with h;subst h
    rw[hev1]at hx;rw[hev2]at hy;rw[hev3]at hz
    refine⟨.int k (if c<(if b<a then b else a)then c else(if b<a then b else a)),?_,.imm _ _ (.int _ _)⟩
    simp[resolve,invoke,builtin,hx.int_inv,hy.int_inv,hz.int_inv,run_min_int3]
   ·cases h
  ·cases h
 ·cases h
end
def listA(ol:Nat→Option AO):AV→Option (Bool×List (List AV)×List Nat)
 |.sl xs=>some (true,xs,[])
 |.esl=>some (true,[],[])
 |.osw o _=>match ol o with
  |some (.rows p rs)=>some (p,rs,[o])
  |some (.froz rs)=>some (true,rs,[o])
  |_=>none
 |.osl o off len _=>match ol o with
  |some (.rows p rs)=>some (p,(rs.drop off).take len,[o])
  |some (.froz rs)=>some (true,(rs.drop off).take len,[o])
  |_=>none
 |.str l=>some (true,l.map fun b=>[.int .u8 b.toNat],[])
 |_=>none
def keyEq(P:Program)(kt:TypeId)(k k':AV):Option Bool:=
 match P.underlying kt,k,k' with
 |some (.int _),.int q a,.int q' b=>if q=q' then some (a==b)else none
 |some .string,.str a,.str b=>some (a==b)
 |some .bool,.bool a,.bool b=>some (a==b)
 |some (.struct _),.agg [.int q a,.int r b],.agg [.int q' a',.int r' b']=>if q=q'∧r=r' then some (a==a'&&b==b')else none
 |_,_,_=>none
def pairT(P:Program)(kt:TypeId):Bool:=
 match P.underlying kt with
 |some (.struct fs)=>(match fs.toList with
  | [f,g]=>f.name != "_" &&g.name != "_" &&decide (f.offset=0)&&decide (g.offset=1)&&(match P.underlying f.type,P.underlying g.type with|some (.int _),some (.int _)=>true|_,_=>false)&&
   decide ((kindT P f.type).map (·.1)=some false)&&decide ((kindT P g.type).map (·.1)=some false)&&Zdi P 20 kt&&decide (P.cellsOf kt=2)
  |_=>false)
 |_=>false
def keyOk(P:Program)(kt:TypeId)(k:AV):Bool:=
 match P.underlying kt,k with
 |some (.int _),.int _ _=>true
 |some .string,.str _=>true
 |some .bool,.bool _=>true
 |some (.struct _),.agg [.int _ _,.int _ _]=>pairT P kt
 |_,_=>false
def zeroV(P:Program)(t:TypeId):Option AV:=
 match P.info? t with
 |none=>none
 |some i=>match i.zero with
  |some v=>some (ofVal v)
  |none=>none
def ZbR(P:Program)(kt:TypeId)(k:AV):List (AV×AV)→Nat→Option Nat→Prop
 | [],_,r=>r=none
 |e::es,i,r=>(keyEq P kt k e.1=some true∧r=some i)∨(keyEq P kt k e.1=some false∧ZbR P kt k es (i+1) r)
def bndP(ev:Operand→AV)(o:Option Operand)(d n:Nat):Prop:=
 match o with
 |none=>n=d
 |some x=>∃k i,ev x=.int k i∧0≤i∧i.toNat=n
def rowT(P:Program)(t:TypeId):Option Nat:=
 match P.underlying t with
 |some (.slice e)=>match P.info? e with
  |some i=>match i.zero with
   |some z=>if(decide (i.bytes≤131072)&&decide (z.cells.size=i.size))=true then some i.size else none
   |none=>none
  |none=>none
 |_=>none
def listT(P:Program)(t:TypeId):Bool:=
 match P.underlying t with
 |some (.slice _)=>true
 |some .string=>true
 |_=>false
def zeroE(P:Program)(t:TypeId):Option (List AV):=
 match P.underlying t with
 |some (.slice e)=>zeroA P e
 |_=>none
def chunk(n:Nat):Nat→List AV→List (List AV)
 |0,_=>[]
 |k+1,cs=>cs.take n::chunk n k (cs.drop n)
def keyT(P:Program)(t:TypeId):Option TypeId:=
 match P.underlying t with
 |some (.map k _)=>some k
 |_=>none
def valT(P:Program)(t:TypeId):Option TypeId:=
 match P.underlying t with
 |some (.map _ e)=>some e
 |_=>none
def putE(es:List (AV×AV))(r:Option Nat)(k v:AV):List (AV×AV):=
 match r with
 |some i=>es.modify i fun _=>(k,v)
 |none=>es++[(k,v)]
def enc8(l:List UInt8):List (List AV):=l.map fun b=>[.int .u8 b.toNat]
def Zii(P:Program)(s d:TypeId):Bool:=
 match P.underlying s,P.underlying d with
 |some .string,some (.slice e)=>match P.underlying e with
  |some (.int .u8)=>true
  |_=>false
 |_,_=>false
inductive BStep(P:Program)(ev:Operand→AV)(ol:Nat→Option AO)(id:Nat):Op→AV→List (Nat×Option AO)→List Nat→Prop
 |slStr (t:TypeId) (x:Operand) (lo hi:Option Operand) (l:List UInt8) (a b:Nat) (h:ev x=.str l) (ht:P.underlying t=some .string)
  (ha:bndP ev lo 0 a) (hb:bndP ev hi l.length b) (hab:a≤b) (hbl:b≤l.length):BStep P ev ol id (.slice t x lo hi none) (.str ((l.take b).drop a)) [] []
 |slSl (t:TypeId) (x:Operand) (lo hi:Option Operand) (xs:List (List AV)) (a b sz:Nat) (h:ev x=.sl xs) (ht:rowT P t=some sz) (hl:a=0∨∀r,r∈xs→r.length=sz)
  (ha:bndP ev lo 0 a) (hb:bndP ev hi xs.length b) (hab:a≤b) (hbl:b≤xs.length):BStep P ev ol id (.slice t x lo hi none) (.sl ((xs.take b).drop a)) [] []
 |slZero (t:TypeId) (x:Operand) (lo:Option Operand) (h m:Operand) (k k':IntKind) (q:Bool×List (List AV)×List Nat) (sz:Nat) (hs:∀l,ev x≠.str l) (hx:listA ol (ev x)=some q) (ht:rowT P t=some sz)
  (ha:bndP ev lo 0 0) (hh:ev h=.int k 0) (hm:ev m=.int k' 0):BStep P ev ol id (.slice t x lo (some h) (some m)) .esl [] q.2.2
 |slOsw (t:TypeId) (x:Operand) (lo hi:Option Operand) (o z a b sz:Nat) (y:AO) (rs:List (List AV)) (h:ev x=.osw o z) (ho:ol o=some y) (hy:y=.rows true rs∨y=.rows false rs∨y=.froz rs)
  (hr:∀r,r∈rs→r.length=sz) (ht:rowT P t=some sz) (ha:bndP ev lo 0 a) (hb:bndP ev hi rs.length b) (hab:a≤b) (hbl:b≤rs.length):
  BStep P ev ol id (.slice t x lo hi none) (.osl o a (b-a) (rs.length-a)) [] [o]
 |slOsl (t:TypeId) (x:Operand) (lo hi:Option Operand) (o off len room a b sz:Nat) (y:AO) (rs:List (List AV)) (h:ev x=.osl o off len room) (ho:ol o=some y) (hy:y=.rows true rs∨y=.rows false rs∨y=.froz rs)
  (hr:∀r,r∈rs→r.length=sz) (ht:rowT P t=some sz) (ha:bndP ev lo 0 a) (hb:bndP ev hi len b) (hab:a≤b) (hbl:b≤len) (hbr:off+room≤rs.length):
  BStep P ev ol id (.slice t x lo hi none) (.osl o (off+a) (b-a) (room-a)) [] [o]
 |cutW (t:TypeId) (x:Operand) (hi:Operand) (o z b:Nat) (rs:List (List AV)) (h:ev x=.osw o z) (ho:ol o=some (.rows true rs)) (hr:∀r,r∈rs→r.length=z) (ht:rowT P t=some z)
  (hb:bndP ev (some hi) rs.length b) (hbl:b≤rs.length):BStep P ev ol id (.slice t x none (some hi) none) (.osw id z) [(id,some (.rows true (rs.take b))),(o,none)] []
 |mkSl (t:TypeId) (l c:Operand) (k k':IntKind) (n m:Int) (z:List AV) (sz:Nat) (hl:ev l=.int k n) (hc:ev c=.int k' m) (h0:0≤n) (h1:n≤m) (h2:m≤LIM)
  (ht:rowT P t=some sz) (hz:zeroE P t=some z):BStep P ev ol id (.makeSlice t l c) (.osw id sz) [(id,some (.rows true (List.replicate n.toNat z)))] []
 |bldSl (t:TypeId) (len:Nat) (parts:Array (Nat×Operand)) (z cs:List AV) (sz:Nat) (ht:rowT P t=some sz) (hz:zeroE P t=some z) (hlim:len*sz≤16777216) (hlim2:len≤LIM)
  (hcl:cs.length=len*sz) (hall:cs.all Zee=true) (hf:fillA ev (fun i=>some (i*sz,sz)) parts.toList (List.replicate len z).flatten=some cs):BStep P ev ol id (.buildSlice t len parts) (.osw id sz) [(id,some (.rows (cs.all Zb8) (chunk sz len cs)))] []
 |appE (t tx:TypeId) (s x:Operand) (q:Bool×List (List AV)×List Nat) (sz:Nat) (hs:ev s=.esl) (hx:listA ol (ev x)=some q) (ht:rowT P t=some sz) (htx:listT P tx=true)
  (hr:∀r,r∈q.2.1→r.length=sz) (hlim:q.2.1.length≤LIM):BStep P ev ol id (.call {callee:=.builtin .append,args:=#[s,x],argTypes:=#[t,tx]}) (.osw id sz) [(id,some (.rows q.1 q.2.1))] q.2.2
 |appW (t tx:TypeId) (s x:Operand) (q:Bool×List (List AV)×List Nat) (sz o z:Nat) (p:Bool) (rs:List (List AV)) (hs:ev s=.osw o z) (hz:z=sz) (ho:ol o=some (.rows p rs)) (hx:listA ol (ev x)=some q)
  (ht:rowT P t=some sz) (htx:listT P tx=true) (hr:∀r,r∈q.2.1→r.length=sz) (hr':∀r,r∈rs→r.length=sz) (hlim:rs.length+q.2.1.length≤LIM):
  BStep P ev ol id (.call {callee:=.builtin .append,args:=#[s,x],argTypes:=#[t,tx]}) (.osw id sz) [(id,some (.rows (p&&q.1) (rs++q.2.1))),(o,none)] q.2.2
 |toBytes (s d:TypeId) (x:Operand) (l:List UInt8) (hx:ev x=.str l) (ht:Zii P s d=true) (hl:l.length≤LIM):
  BStep P ev ol id (.convert s d x) (.osw id 1) [(id,some (.rows true (enc8 l)))] []
 |toStr (s d:TypeId) (x:Operand) (l:List UInt8) (q:Bool×List (List AV)×List Nat) (hs:∀l,ev x≠.str l) (hx:listA ol (ev x)=some q) (hl:q.2.1=enc8 l) (ht:Zii P d s=true):
  BStep P ev ol id (.convert s d x) (.str l) [] q.2.2
 |mkMap (t:TypeId) (h:(keyT P t).isSome=true):BStep P ev ol id (.makeMap t none) (.mapo id) [(id,some (.mapo true []))] []
 |mkMapN (t:TypeId) (x:Operand) (k:IntKind) (n:Int) (h:(keyT P t).isSome=true) (hx:ev x=.int k n):BStep P ev ol id (.makeMap t (some x)) (.mapo id) [(id,some (.mapo true []))] []
 |mapUpd (op:Op) (t kt:TypeId) (m k x:Operand) (hop:op=.mapUpdate t m k x∨op=.insert t m k x) (o:Nat) (p:Bool) (es:List (AV×AV)) (r:Option Nat) (hm:ev m=.mapo o) (ho:ol o=some (.mapo p es)) (ht:keyT P t=some kt)
  (hk:keyOk P kt (ev k)=true) (hr:ZbR P kt (ev k) es 0 r) (hlim:es.length+1≤LIM) (v':AV) (hw:Wk (ev x) v'):BStep P ev ol id op .undef [(o,some (.mapo (p&&ZhK v') (putE es r (ev k) v')))] []
 |look (t kt:TypeId) (m k:Operand) (ok:Bool) (o:Nat) (p:Bool) (es:List (AV×AV)) (r:Option Nat) (v:AV) (hm:ev m=.mapo o) (ho:ol o=some (.mapo p es)) (ht:keyT P t=some kt) (hk:keyOk P kt (ev k)=true)
  (hr:ZbR P kt (ev k) es 0 r) (hv:(∃i e,r=some i∧es[i]? =some e∧v=e.2)∨(r=none∧∃vt zv,valT P t=some vt∧zeroV P vt=some zv∧Wk zv v)):
  BStep P ev ol id (.lookup t m k ok) (if ok then .tup [v,.bool r.isSome]else v) [] [o]
 |lookN (t kt vt:TypeId) (m k:Operand) (ok:Bool) (v:AV) (hm:ev m=.con (.map none)) (ht:keyT P t=some kt) (hk:keyOk P kt (ev k)=true)
  (hvt:valT P t=some vt) (hz:zeroV P vt=some v):BStep P ev ol id (.lookup t m k ok) (if ok then .tup [v,.bool false]else v) [] []
def keysF(fs:List (AV×List (List AV))):List (AV×AV):=fs.map fun e=>(e.1,AV.undef)
def putF(fs:List (AV×List (List AV)))(r:Option Nat)(k:AV)(rs:List (List AV)):List (AV×List (List AV)):=
 match r with
 |some i=>fs.set i (k,rs)
 |none=>fs++[(k,rs)]
def delF(fs:List (AV×List (List AV)))(r:Option Nat):List (AV×List (List AV)):=
 match r with
 |some i=>fs.eraseIdx i
 |none=>fs
def delE(es:List (AV×AV))(r:Option Nat):List (AV×AV):=
 match r with
 |some i=>es.eraseIdx i
 |none=>es
def DstP(d:AV)(rs:List (List AV))(o off len:Nat):Prop:=(∃z,d=.osw o z∧off=0∧len=rs.length)∨∃room,d=.osl o off len room∧off+room≤rs.length
def ZnN(h:Option (Nat×Nat))(r:Option Nat):Prop:=h=none∨∃i q,h=some (i,q)∧r=some i
def cnvT(P:Program)(s d:TypeId):Bool:=
 Nat.beq s d&&match P.underlying s with
  |some (.slice e)=>(match P.underlying e with|some (.int .u8)=>true|_=>false)
  |_=>false
theorem Zrr{P:Program}{s d:TypeId}(h:cnvT P s d=true):d=s∧∃e,P.underlying s=some (.slice e)∧P.underlying e=some (.int .u8):=by
 unfold cnvT at h;rw[Y8]at h
 obtain⟨h1,h2⟩:=h
 split at h2
 ·rename_i e he
  split at h2
  all_goals simp_all
 grind
inductive FStep(P:Program)(ev:Operand→AV)(ol:Nat→Option AO)(id:Nat):Op→AV→List (Nat×Option AO)→List Nat→Prop
 |look (t kt:TypeId) (m k:Operand) (ok:Bool) (o z:Nat) (fs:List (AV×List (List AV))) (i:Nat) (e:AV×List (List AV)) (hm:ev m=.mapo o) (ho:ol o=some (.fmap z fs none)) (ht:keyT P t=some kt)
  (hk:keyOk P kt (ev k)=true) (hr:ZbR P kt (ev k) (keysF fs) 0 (some i)) (he:fs[i]? =some e):
  FStep P ev ol id (.lookup t m k ok) (if ok then .tup [.osw id z,.bool true]else .osw id z) [(id,some (.rows true e.2)),(o,some (.fmap z fs (some (i,id))))] []
 |peek (t kt:TypeId) (m k:Operand) (o z:Nat) (fs:List (AV×List (List AV))) (h:Option (Nat×Nat)) (r:Option Nat) (hm:ev m=.mapo o) (ho:ol o=some (.fmap z fs h)) (ht:keyT P t=some kt)
  (hk:keyOk P kt (ev k)=true) (hr:ZbR P kt (ev k) (keysF fs) 0 r) (hz:∃vt zv,valT P t=some vt∧zeroV P vt=some zv):FStep P ev ol id (.lookup t m k true) (.tup [.undef,.bool r.isSome]) [] [o]
 |lookNo (t kt:TypeId) (m k:Operand) (ok:Bool) (o z:Nat) (fs:List (AV×List (List AV))) (h:Option (Nat×Nat)) (v:AV) (hm:ev m=.mapo o) (ho:ol o=some (.fmap z fs h)) (ht:keyT P t=some kt)
  (hk:keyOk P kt (ev k)=true) (hr:ZbR P kt (ev k) (keysF fs) 0 none) (hv:∃vt zv,valT P t=some vt∧zeroV P vt=some zv∧Wk zv v):
  FStep P ev ol id (.lookup t m k ok) (if ok then .tup [v,.bool false]else v) [] [o]
 |upd (op:Op) (t kt:TypeId) (m k x:Operand) (hop:op=.mapUpdate t m k x∨op=.insert t m k x) (o z q:Nat) (fs:List (AV×List (List AV))) (h:Option (Nat×Nat)) (r:Option Nat) (rs:List (List AV))
  (hm:ev m=.mapo o) (ho:ol o=some (.fmap z fs h)) (ht:keyT P t=some kt) (hk:keyOk P kt (ev k)=true) (hr:ZbR P kt (ev k) (keysF fs) 0 r) (hh:ZnN h r) (hlim:fs.length+1≤LIM)
  (hx:ev x=.osw q z) (hq:ol q=some (.rows true rs)) (hl:∀row,row∈rs→row.length=z) (hz:0<z) (hne:q≠o):
  FStep P ev ol id op .undef [(o,some (.fmap z (putF fs r (ev k) rs) none)),(q,none)] []
 |del (t tk kt:TypeId) (m k:Operand) (o z:Nat) (fs:List (AV×List (List AV))) (h:Option (Nat×Nat)) (r:Option Nat) (hm:ev m=.mapo o) (ho:ol o=some (.fmap z fs h)) (ht:keyT P t=some kt)
  (hk:keyOk P kt (ev k)=true) (hr:ZbR P kt (ev k) (keysF fs) 0 r) (hh:ZnN h r):
  FStep P ev ol id (.call {callee:=.builtin .delete,args:=#[m,k],argTypes:=#[t,tk]}) (.tup []) [(o,some (.fmap z (delF fs r) none))] []
 |copy (t ts:TypeId) (d s:Operand) (o off len:Nat) (p:Bool) (rs:List (List AV)) (q:Bool×List (List AV)×List Nat) (sz:Nat) (ho:ol o=some (.rows p rs)) (hd:DstP (ev d) rs o off len) (hs:listA ol (ev s)=some q)
  (ht:rowT P t=some sz) (hr:∀r,r∈rs→r.length=sz) (hr':∀r,r∈q.2.1→r.length=sz):
  FStep P ev ol id (.call {callee:=.builtin .copy,args:=#[d,s],argTypes:=#[t,ts]}) (.int .i64 (min len q.2.1.length:Nat))
   [(o,some (.rows (p&&q.1) (rs.take off++(q.2.1.take (min len q.2.1.length)++rs.drop (off+min len q.2.1.length)))))] q.2.2
 |delM (t tk kt:TypeId) (m k:Operand) (o:Nat) (p:Bool) (es:List (AV×AV)) (r:Option Nat) (hm:ev m=.mapo o) (ho:ol o=some (.mapo p es)) (ht:keyT P t=some kt)
  (hk:keyOk P kt (ev k)=true) (hr:ZbR P kt (ev k) es 0 r):
  FStep P ev ol id (.call {callee:=.builtin .delete,args:=#[m,k],argTypes:=#[t,tk]}) (.tup []) [(o,some (.mapo p (delE es r)))] []
 |len (x:Operand) (ts:Array TypeId) (args:Array Operand) (t:TypeId) (o z:Nat) (fs:List (AV×List (List AV))) (h:Option (Nat×Nat)) (ha:args[0]? =some x) (hts:ts[0]? =some t) (ht:(keyT P t).isSome=true)
  (hx:ev x=.mapo o) (ho:ol o=some (.fmap z fs h)):FStep P ev ol id (.call {callee:=.builtin .len,args:=args,argTypes:=ts}) (.int .i64 fs.length) [] [o]
 |nilqW (t t' e:TypeId) (x:Operand) (o z:Nat) (p:Bool) (rs:List (List AV)) (hx:ev x=.osw o z) (ho:ol o=some (.rows p rs)) (ht:P.underlying t=some (.slice e)):
  FStep P ev ol id (.binOp .eql t x (.const (.slice none 0 0)) t') (.anyb (rs=[])) [] [o]
 |clr (t:TypeId) (x:Operand) (o off len room:Nat) (p:Bool) (rs:List (List AV)) (z:List AV) (sz:Nat) (h:ev x=.osl o off len room) (ho:ol o=some (.rows p rs)) (ht:rowT P t=some sz) (hz:zeroE P t=some z)
  (hr:∀r,r∈rs→r.length=sz) (hbr:off+room≤rs.length):
  FStep P ev ol id (.call {callee:=.builtin .clear,args:=#[x],argTypes:=#[t]}) (.tup []) [(o,some (.rows p (rs.take off++(List.replicate len z++rs.drop (off+len)))))] []
 |mk (t:TypeId) (z:Nat) (h:(keyT P t).isSome=true):FStep P ev ol id (.makeMap t none) (.mapo id) [(id,some (.fmap z [] none))] []
 |litS (t:TypeId) (len:Nat) (parts:Array (Nat×Operand)) (z cs:List AV) (ht:rowT P t=some 1) (hz:zeroE P t=some z) (hlim:len*1≤16777216) (hlim2:len≤LIM) (hpos:0<len)
  (hcl:cs.length=len*1) (hall:cs.all Zee=true) (hfr:cs.all Zb8=true) (hf:fillA ev (fun i=>some (i*1,1)) parts.toList (List.replicate len z).flatten=some cs):
  FStep P ev ol id (.buildSlice t len parts) (.osw id 1) [(id,some (.lit (chunk 1 len cs)))] []
 |cnv (s d:TypeId) (x:Operand) (o:Nat) (rs:List (List AV)) (hx:ev x=.osw o 1) (ho:ol o=some (.lit rs)) (ht:cnvT P s d=true):
  FStep P ev ol id (.convert s d x) (.osw o 1) [(o,some (.rows true rs))] []
 |allocV (t:TypeId) (cs:List AV) (k z:Nat) (h:zeroA P t=some cs) (hk:cs[k]? =some .esl):
  FStep P ev ol id (.alloc t) (.ptr id 0 0) [(id,some (.rows false [setAt cs k [.osw (id+1) z]])),(id+1,some (.rows true []))] []
 |boxV (t:TypeId) (x:Operand) (cs:List AV) (k z:Nat) (h:ZbE (ev x)=some cs) (hk:cs[k]? =some .esl):
  FStep P ev ol id (.box t x) (.ptr id 0 0) [(id,some (.rows false [setAt cs k [.osw (id+1) z]])),(id+1,some (.rows true []))] []
 |buildV (t:TypeId) (parts:Array (Nat×Operand)) (cs:List AV) (k z:Nat) (h:Zkp P ev t parts=some (.agg cs)) (hk:cs[k]? =some .esl):
  FStep P ev ol id (.build t parts) (.agg (setAt cs k [.osw id z])) [(id,some (.rows true []))] []
def W:Nat:=32
def lk(os:List (Nat×AO))(o:Nat):Option AO:=
 match os with
 | []=>none
 |(k,x)::r=>if o=k then some x else lk r o
structure Zei(Ow:Nat→Prop)(S:Nat→Prop)(w:World)(ι:Imap)(os:Nat→Option AO):Prop where
 ob:∀o x,os o=some x→ObjOk S w ι o x
 own:∀o x,os o=some x→x.live=true→∀l,ι o=some (some l)→∀b,foot w x l b→Ow b∧¬S b∧b<w.heap.size
 inj:∀o o' x x',os o=some x→os o'=some x'→x.live=true→x'.live=true→
  ∀l l',ι o=some (some l)→ι o'=some (some l')→∀b,foot w x l b→foot w x' l' b→o=o'
def callB(P:Program)(f:Nat):Bool:=
 match P.funcs[f]? with
 |some fn=>!(fn.name== "runtime.NumGoroutine")&&fn.body.isSome&&Nat.blt f FB
 |none=>false
theorem ZiY{P:Program}{f:Nat}(h:callB P f=true):Nat.blt f FB=true:=by
 unfold callB at h
 grind
theorem Zkn{P:Program}{f:Nat}(h:callB P f=true)(args:Array Value)(w:World):(callFunc f args).run P w=.ok (.enter f args) w:=by
 unfold callB at h;split at h
 ·rename_i fn hf
  simp only[Y8,WS,YP]at h
  replace h:=h.1
  have hb:fn.body.isNone=false:=by cases hb:fn.body<;>simp_all
  unfold callFunc;simp only[Y6,run_program,Result.andThen_ok,hf,h.1,hb,Yr,Y9,Sem.run_pure]
 ·cases h
def OwOf(w0:World)(ι0:Imap)(oin:List (Nat×AO))(b:Nat):Prop:=
 w0.heap.size≤b∨∃o x l,lk oin o=some x∧x.live=true∧ι0 o=some (some l)∧foot w0 x l b
def FC(P:Program)(G:Gmap)(f:Nat)(oin:List (Nat×AO))(args:List AV)(rv:AV)(os':List (Nat×AO)):Prop:=
 callB P f=true∧(∀o x,lk os' o=some x→o<W)∧
 ∀(S0:Nat→Prop) (ι0:Imap) (w0:World) (vs:Array Value),
  (∀b,S0 b→b<w0.heap.size)→GOk G S0 w0→Zei (OwOf w0 ι0 oin) S0 w0 ι0 (lk oin)→(∀o,oin.length≤o→ι0 o=none)→RepL S0 w0 ι0 args vs.toList→
  Calls P f vs w0 fun e w'=>∃v S' ι',e=.returned v∧Fr (OwOf w0 ι0 oin) w0 w'∧
   (∀b,S' b→(S0 b∨OwOf w0 ι0 oin b)∧b<w'.heap.size)∧(∀b,S0 b→S' b)∧ι0.le ι'∧(∀o,W≤o→ι' o=none)∧
   Rep S' w' ι' rv v∧Zei (OwOf w0 ι0 oin) S' w' ι' (lk os')
mutual
def renAV(σ:Nat→Nat):AV→AV
 |.ptr o r c=>.ptr (σ o) r c
 |.osl o a b c=>.osl (σ o) a b c
 |.osw o z=>.osw (σ o) z
 |.mapo o=>.mapo (σ o)
 |.agg cs=>.agg (renL σ cs)
 |.tup cs=>.tup (renL σ cs)
 |.fn f cs=>.fn f (renL σ cs)
 |x=>x
def renL(σ:Nat→Nat):List AV→List AV
 | []=>[]
 |x::r=>renAV σ x::renL σ r
end
def renO(σ:Nat→Nat):AO→AO
 |.rows false rs=>.rows false (rs.map (renL σ))
 |.rows true rs=>.rows true rs
 |.froz rs=>.froz rs
 |.fmap z fs h=>.fmap z fs (h.map fun e=>(e.1,σ e.2))
 |.gmap es h=>.gmap es (h.map fun e=>(e.1,σ e.2))
 |.lit rs=>.lit rs
 |.mapo false es=>.mapo false (es.map fun e=>(e.1,renAV σ e.2))
 |.mapo true es=>.mapo true es
mutual
def idsB(n:Nat):AV→Bool
 |.ptr o _ _=>decide (o<n)
 |.osl o _ _ _=>decide (o<n)
 |.osw o _=>decide (o<n)
 |.mapo o=>decide (o<n)
 |.agg cs=>idsBL n cs
 |.tup cs=>idsBL n cs
 |.fn _ cs=>idsBL n cs
 |_=>true
def idsBL(n:Nat):List AV→Bool
 | []=>true
 |x::r=>idsB n x&&idsBL n r
end
def idsBO(n:Nat):AO→Bool
 |.rows false rs=>rs.all (idsBL n)
 |.mapo false es=>es.all fun e=>idsB n e.2
 |.fmap _ _ (some e)=>decide (e.2<n)
 |.gmap _ (some e)=>decide (e.2<n)
 |_=>true
mutual
def flat:AV→Bool
 |.int .. |.bool _|.str _|.con _=>true
 |.agg cs=>flatL cs
 |.tup cs=>flatL cs
 |_=>false
def flatL:List AV→Bool
 | []=>true
 |x::r=>flat x&&flatL r
end
def Zel{α β:Type}(f:α→Option β):List α→Option (List β)
 | []=>some []
 |x::r=>match f x,Zel f r with
  |some y,some s=>some (y::s)
  |_,_=>none
def ZgC(cl:AV→Option AV):AO→Option (List (List AV))
 |.rows true rs=>some rs
 |.rows false rs=>Zel (Zel cl) rs
 |.froz rs=>some rs
 |.mapo _ _=>none
 |.fmap .. =>none
 |.gmap .. =>none
 |.lit _=>none
def ZaT(V:List Nat)(ol:Nat→Option AO):Nat→AV→Option AV
 |0,_=>none
 |n+1,x=>match x with
  |.osw o _=>if V.contains o then(match ol o with|some y=>(ZgC (ZaT V ol n) y).map .sl|none=>none)else none
  |.osl o off len _=>if V.contains o then(match ol o with|some y=>(ZgC (ZaT V ol n) y).map fun rs=>.sl ((rs.drop off).take len)|none=>none)else none
  |.ptr o r c=>if V.contains o then(match ol o with
   |some y=>(match ZgC (ZaT V ol n) y with|some rs=>(match rs[r]? with|some row=>some (.rp row c)|none=>none)|none=>none)
   |none=>none)else none
  |.agg cs=>(Zel (ZaT V ol n) cs).map .agg
  |.tup cs=>(Zel (ZaT V ol n) cs).map .tup
  |.fn f cs=>(Zel (ZaT V ol n) cs).map (.fn f)
  |.mapo _=>none
  |x=>some x
def frozen(V:List Nat)(ol:Nat→Option AO)(n:Nat):Option (List (Nat×Option AO)):=
 Zel (fun o=>match ol o with
  |some y=>(ZgC (ZaT V ol n) y).map fun rs=>(o,some (.froz rs))
  |none=>none) V
def ZgN(id:Nat)(os:List (Nat×AO)):List (Nat×Option AO):=os.map fun e=>(id+e.1,some (renO (id+ ·) e.2))
def bk(V:List Nat)(id:Nat)(j:Nat):Nat:=if j<V.length then V.getD j 0 else id+j
def backU(V:List Nat)(id:Nat)(os':List (Nat×AO)):List (Nat×Option AO):=
 os'.map (fun e=>(bk V id e.1,some (renO (bk V id) e.2)))++V.map fun o=>(o,none)
structure Hands(V:List Nat)(id:Nat)(ol:Nat→Option AO)(avs:List AV)(oin:List (Nat×AO))(argsC:List AV):Prop where
 ok:(decide V.Nodup&&idsBL V.length argsC&&oin.all fun e=>idsBO V.length e.2)=true
 keys:oin.map (·.1)=List.range V.length
 objs:WkOs (V.map ol) (oin.map fun e=>some (renO (bk V id) e.2))
 args:WkL avs (renL (bk V id) argsC)
def keysG(es:List (AV×Gr)):List (AV×AV):=es.map fun e=>(e.1,AV.undef)
def grO:Nat→Gr→List (Nat×AO)
 |_,[]=>[]
 |k,e::r=>(k,e.2.ao)::grO (k+1) r
inductive GStep(P:Program)(ev:Operand→AV)(ol:Nat→Option AO)(id:Nat):Op→AV→List (Nat×Option AO)→List Nat→Prop
 |look (t kt:TypeId) (m k:Operand) (ok:Bool) (o:Nat) (es:List (AV×Gr)) (i:Nat) (e:AV×Gr) (hm:ev m=.mapo o) (ho:ol o=some (.gmap es none)) (ht:keyT P t=some kt)
  (hk:keyOk P kt (ev k)=true) (hr:ZbR P kt (ev k) (keysG es) 0 (some i)) (he:es[i]? =some e) (hW:e.2.length≤W):
  GStep P ev ol id (.lookup t m k ok) (if ok then .tup [.ptr id 0 0,.bool true]else .ptr id 0 0) (ZgN id (grO 0 e.2)++[(o,some (.gmap es (some (i,id))))]) []
 |same (t kt:TypeId) (m k:Operand) (ok:Bool) (o q:Nat) (es:List (AV×Gr)) (i:Nat) (hm:ev m=.mapo o) (ho:ol o=some (.gmap es (some (i,q)))) (ht:keyT P t=some kt)
  (hk:keyOk P kt (ev k)=true) (hr:ZbR P kt (ev k) (keysG es) 0 (some i)):
  GStep P ev ol id (.lookup t m k ok) (if ok then .tup [.ptr q 0 0,.bool true]else .ptr q 0 0) [] [o]
 |lookNo (t kt:TypeId) (m k:Operand) (ok:Bool) (o:Nat) (es:List (AV×Gr)) (h:Option (Nat×Nat)) (v:AV) (hm:ev m=.mapo o) (ho:ol o=some (.gmap es h)) (ht:keyT P t=some kt)
  (hk:keyOk P kt (ev k)=true) (hr:ZbR P kt (ev k) (keysG es) 0 none) (hv:∃vt zv,valT P t=some vt∧zeroV P vt=some zv∧Wk zv v):
  GStep P ev ol id (.lookup t m k ok) (if ok then .tup [v,.bool false]else v) [] [o]
 |put (op:Op) (t kt:TypeId) (m k x:Operand) (hop:op=.mapUpdate t m k x∨op=.insert t m k x) (o q:Nat) (es:List (AV×Gr)) (hm:ev m=.mapo o) (ho:ol o=some (.gmap es none)) (ht:keyT P t=some kt)
  (hk:keyOk P kt (ev k)=true) (hr:ZbR P kt (ev k) (keysG es) 0 none) (hlim:es.length+1≤LIM) (hx:ev x=.ptr q 0 0) (g0:Gr):
  GStep P ev ol id op .undef [(o,some (.gmap (es++[(ev k,g0)]) (some (es.length,q))))] []
 |mk (t:TypeId) (h:(keyT P t).isSome=true):GStep P ev ol id (.makeMap t none) (.mapo id) [(id,some (.gmap [] none))] []
inductive AStep(P:Program)(G:Gmap)(ev:Operand→AV)(ol:Nat→Option AO)(id:Nat):Op→AV→List (Nat×Option AO)→List Nat→Prop
 |pure (op:Op) (v:AV) (h:pval P ev op=some v):AStep P G ev ol id op v [] []
 |more (op:Op) (v:AV) (U:List (Nat×Option AO)) (RO:List Nat) (h:BStep P ev ol id op v U RO):AStep P G ev ol id op v U RO
 |files (op:Op) (v:AV) (U:List (Nat×Option AO)) (RO:List Nat) (h:FStep P ev ol id op v U RO):AStep P G ev ol id op v U RO
 |graphs (op:Op) (v:AV) (U:List (Nat×Option AO)) (RO:List Nat) (h:GStep P ev ol id op v U RO):AStep P G ev ol id op v U RO
 |nil (z:Nat):AStep P G ev ol id (.assign (.const (.slice none 0 0))) (.osw id z) [(id,some (.rows true []))] []
 |pick (c a b:Operand) (t:Bool) (h:ev c=.bool t):AStep P G ev ol id (.pick c a b) (if t then ev a else ev b) [] []
 |alloc (t:TypeId) (cs:List AV) (h:zeroA P t=some cs):AStep P G ev ol id (.alloc t) (.ptr id 0 0) [(id,some (.rows false [cs]))] []
 |box (t:TypeId) (x:Operand) (cs:List AV) (h:ZbE (ev x)=some cs):AStep P G ev ol id (.box t x) (.ptr id 0 0) [(id,some (.rows false [cs]))] []
 |load (t:TypeId) (a:Operand) (o i c:Nat) (p:Bool) (rs:List (List AV)) (row:List AV) (v:AV) (h:ev a=.ptr o i c) (ho:ol o=some (.rows p rs))
  (hr:rs[i]? =some row) (hl:Zgh P t row c=some v):AStep P G ev ol id (.load t a) v [] [o]
 |loadf (t:TypeId) (a:Operand) (o i c:Nat) (rs:List (List AV)) (row:List AV) (v:AV) (h:ev a=.ptr o i c) (ho:ol o=some (.froz rs))
  (hr:rs[i]? =some row) (hl:Zgh P t row c=some v):AStep P G ev ol id (.load t a) v [] [o]
 |loadr (t:TypeId) (a:Operand) (row:List AV) (c:Nat) (v:AV) (h:ev a=.rp row c) (hl:Zgh P t row c=some v):AStep P G ev ol id (.load t a) v [] []
 |store (t:TypeId) (a x:Operand) (o i c:Nat) (p:Bool) (rs:List (List AV)) (row cs:List AV) (b:Bool) (n:Nat) (h:ev a=.ptr o i c)
  (ho:ol o=some (.rows p rs)) (hr:rs[i]? =some row) (hc:ZbE (ev x)=some cs) (hk:kindT P t=some (b,n)) (hn:cs.length=n)
  (hb:c+n≤row.length):AStep P G ev ol id (.store t a x) .undef [(o,some (.rows (p&&cs.all Zb8) (rs.set i (setAt row c cs))))] []
 |storeZ (t:TypeId) (a x:Operand) (o i c:Nat) (p:Bool) (rs:List (List AV)) (row:List AV) (b:Bool) (q z:Nat) (xs:List (List AV)) (h:ev a=.ptr o i c)
  (ho:ol o=some (.rows p rs)) (hr:rs[i]? =some row) (hx:ev x=.osw q z) (hq:ol q=some (.rows true xs)) (hne:o≠q) (hk:kindT P t=some (b,1))
  (hb:c+1≤row.length):AStep P G ev ol id (.store t a x) .undef [(o,some (.rows (p&&[AV.sl xs].all Zb8) (rs.set i (setAt row c [.sl xs])))),(q,some (.froz xs))] []
 |storeV (t:TypeId) (a x:Operand) (o i c:Nat) (p:Bool) (rs:List (List AV)) (row:List AV) (b:Bool) (z:Nat) (h:ev a=.ptr o i c)
  (ho:ol o=some (.rows p rs)) (hr:rs[i]? =some row) (hx:ev x=.esl) (hk:kindT P t=some (b,1))
  (hb:c+1≤row.length):AStep P G ev ol id (.store t a x) .undef [(o,some (.rows (p&&[AV.osw id z].all Zb8) (rs.set i (setAt row c [.osw id z])))),(id,some (.rows true []))] []
 |idxSl (t e:TypeId) (x ix:Operand) (xs:List (List AV)) (k:IntKind) (n:Int) (row:List AV) (b:Bool) (h:ev x=.sl xs) (hi:ev ix=.int k n) (h0:0≤n)
  (hr:xs[n.toNat]? =some row) (ht:P.underlying t=some (.slice e)) (hk:kindT P e=some (b,row.length)):AStep P G ev ol id (.indexAddr t x ix) (.rp row 0) [] []
 |idxOsw (t e:TypeId) (x ix:Operand) (o z:Nat) (k:IntKind) (n:Int) (y:AO) (rs:List (List AV)) (row:List AV) (b:Bool) (h:ev x=.osw o z) (hi:ev ix=.int k n) (h0:0≤n)
  (ho:ol o=some y) (hy:y=.rows true rs∨y=.rows false rs∨y=.froz rs) (hr:rs[n.toNat]? =some row) (ht:P.underlying t=some (.slice e)) (hk:kindT P e=some (b,row.length)):
  AStep P G ev ol id (.indexAddr t x ix) (.ptr o n.toNat 0) [] [o]
 |idxOsl (t e:TypeId) (x ix:Operand) (o off len room:Nat) (k:IntKind) (n:Int) (y:AO) (rs:List (List AV)) (row:List AV) (b:Bool) (h:ev x=.osl o off len room)
  (hi:ev ix=.int k n) (h0:0≤n) (h1:n.toNat<len)
  (ho:ol o=some y) (hy:y=.rows true rs∨y=.rows false rs∨y=.froz rs) (hr:rs[off+n.toNat]? =some row) (ht:P.underlying t=some (.slice e)) (hk:kindT P e=some (b,row.length)):
  AStep P G ev ol id (.indexAddr t x ix) (.ptr o (off+n.toNat) 0) [] [o]
 |idxArr (t e:TypeId) (x ix:Operand) (o r c len sz:Nat) (k:IntKind) (n:Int) (b:Bool) (h:ev x=.ptr o r c) (hi:ev ix=.int k n) (h0:0≤n) (h1:n<len)
  (ht:P.underlying t=some (.array len e)) (hk:kindT P e=some (b,sz)):AStep P G ev ol id (.indexAddr t x ix) (.ptr o r (c+n.toNat*sz)) [] []
 |idxArrR (t e:TypeId) (x ix:Operand) (row:List AV) (c len sz:Nat) (k:IntKind) (n:Int) (b:Bool) (h:ev x=.rp row c) (hi:ev ix=.int k n) (h0:0≤n) (h1:n<len)
  (ht:P.underlying t=some (.array len e)) (hk:kindT P e=some (b,sz)):AStep P G ev ol id (.indexAddr t x ix) (.rp row (c+n.toNat*sz)) [] []
 |strIx (t:TypeId) (x ix:Operand) (l:List UInt8) (k:IntKind) (n:Int) (c:UInt8) (h:ev x=.str l) (hi:ev ix=.int k n) (h0:0≤n)
  (hr:l[n.toNat]? =some c) (ht:P.underlying t=some .string):AStep P G ev ol id (.index t x ix) (.int .u8 c.toNat) [] []
 |arrIx (t e:TypeId) (x ix:Operand) (cs:List AV) (len sz:Nat) (k:IntKind) (n:Int) (b:Bool) (v:AV) (h:ev x=.agg cs) (hi:ev ix=.int k n) (h0:0≤n) (h1:n<len)
  (ht:P.underlying t=some (.array len e)) (hk:kindT P e=some (b,sz)) (hl:Zgh P e cs (n.toNat*sz)=some v):AStep P G ev ol id (.index t x ix) v [] []
 |quo (t t':TypeId) (x y:Operand) (k:IntKind) (a b:Int) (hx:ev x=.int k a) (hy:ev y=.int k b) (h0:b≠0):
  AStep P G ev ol id (.binOp .quo t x y t') (.int k (k.wrap (a.tdiv b))) [] []
 |rem (t t':TypeId) (x y:Operand) (k:IntKind) (a b:Int) (hx:ev x=.int k a) (hy:ev y=.int k b) (h0:b≠0):
  AStep P G ev ol id (.binOp .rem t x y t') (.int k (a.tmod b)) [] []
 |shl (t t':TypeId) (x y:Operand) (k k':IntKind) (a b:Int) (hx:ev x=.int k a) (hy:ev y=.int k' b) (h0:0≤b):
  AStep P G ev ol id (.binOp .shl t x y t') (.int k (k.wrap (a*2^(min b.toNat k.bits)))) [] []
 |shr (t t':TypeId) (x y:Operand) (k k':IntKind) (a b:Int) (hx:ev x=.int k a) (hy:ev y=.int k' b) (h0:0≤b):
  AStep P G ev ol id (.binOp .shr t x y t') (.int k (a.fdiv (2^(min b.toNat k.bits)))) [] []
 |cat (t t':TypeId) (x y:Operand) (a b:List UInt8) (hx:ev x=.str a) (hy:ev y=.str b) (h:a.length+b.length≤9223372036854775807):
  AStep P G ev ol id (.binOp .add t x y t') (.str (a++b)) [] []
 |eqAgg (t t':TypeId) (x y:Operand) (cs ds:List AV) (r:Bool) (hx:ev x=.agg cs) (hy:ev y=.agg ds) (hp:Zdi P 20 t=true) (hg:P.eqGuardType P.depth t=false) (hst:∃fs,P.underlying t=some (.struct fs))
  (hc:cs.length=P.cellsOf t) (hd:ds.length=P.cellsOf t) (h:Zdj P 20 t cs ds 0=some r):AStep P G ev ol id (.binOp .eql t x y t') (.bool r) [] []
 |neAgg (t t':TypeId) (x y:Operand) (cs ds:List AV) (r:Bool) (hx:ev x=.agg cs) (hy:ev y=.agg ds) (hp:Zdi P 20 t=true) (hg:P.eqGuardType P.depth t=false) (hst:∃fs,P.underlying t=some (.struct fs))
  (hc:cs.length=P.cellsOf t) (hd:ds.length=P.cellsOf t) (h:Zdj P 20 t cs ds 0=some r):AStep P G ev ol id (.binOp .neq t x y t') (.bool !r) [] []
 |nilq (t t' e:TypeId) (x:Operand) (xs:List (List AV)) (hx:ev x=.sl xs) (ht:P.underlying t=some (.slice e)):
  AStep P G ev ol id (.binOp .eql t x (.const (.slice none 0 0)) t') (.anyb (xs=[])) [] []
 |lenOsw (x:Operand) (ts:Array TypeId) (args:Array Operand) (t e:TypeId) (o z:Nat) (y:AO) (rs:List (List AV)) (ha:args[0]? =some x) (hts:ts[0]? =some t) (ht:P.underlying t=some (.slice e))
  (h:ev x=.osw o z) (ho:ol o=some y) (hy:y=.rows true rs∨y=.rows false rs∨y=.froz rs):
  AStep P G ev ol id (.call {callee:=.builtin .len,args:=args,argTypes:=ts}) (.int .i64 rs.length) [] [o]
 |call (fn:Operand) (args:Array Operand) (ts:Array TypeId) (f:Nat) (cap:List AV) (V:List Nat) (n:Nat) (argsC:List AV) (rv:AV)
  (h:ev fn=.fn f cap) (hv:Zel (ZaT V ol n) (args.toList.map ev++cap)=some argsC) (hf:FC P G f [] argsC rv []) (hfl:flat rv=true):
  AStep P G ev ol id (.call {callee:=.value fn,args:=args,argTypes:=ts}) rv [] V
 |callF (fn:Operand) (args:Array Operand) (ts:Array TypeId) (f:Nat) (cap:List AV) (V:List Nat) (n:Nat) (argsC:List AV) (rv:AV)
  (os':List (Nat×AO)) (U:List (Nat×Option AO))
  (h:ev fn=.fn f cap) (hv:Zel (ZaT V ol n) (args.toList.map ev++cap)=some argsC) (hf:FC P G f [] argsC rv os') (hU:frozen V ol n=some U):
  AStep P G ev ol id (.call {callee:=.value fn,args:=args,argTypes:=ts}) (renAV (id+ ·) rv) (U++ZgN id os') V
 |callG (fn:Operand) (args:Array Operand) (ts:Array TypeId) (f:Nat) (cap:List AV) (V:List Nat) (oin:List (Nat×AO)) (argsC:List AV) (rv:AV) (os':List (Nat×AO))
  (h:ev fn=.fn f cap) (hh:Hands V id ol (args.toList.map ev++cap) oin argsC) (hf:FC P G f oin argsC rv os'):
  AStep P G ev ol id (.call {callee:=.value fn,args:=args,argTypes:=ts}) (renAV (bk V id) rv) (backU V id os') V
end Go.Ab
