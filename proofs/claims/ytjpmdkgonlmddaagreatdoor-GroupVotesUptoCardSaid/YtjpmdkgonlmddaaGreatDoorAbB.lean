import Derived.Test.YtjpmdkgonlmddaaGreatDoorAbA
import Derived.Laws.Cover1
set_option linter.unusedVariables false
namespace Go.Ab
def dy(P:Program)(t:TypeId):Option (Bool×Nat):=
 match P.underlying t with
 |none=>none
 |some d=>match P.info? t with
  |none=>none
  |some i=>some (match d with|.struct _=>true|.array .. =>true|_=>false,i.size)
theorem qP{P:Program}{t:TypeId}{i:TypeInfo}(h:P.info? t=some i)(w:World):(sizeOf t).run P w=.ok i.size w:=by
 simp[sizeOf,typeInfo,h]
theorem pB{P:Program}{t:TypeId}{b:Bool}{n:Nat}(h:dy P t=some (b,n))(w:World):
 (isAgg t).run P w=.ok b w∧(sizeOf t).run P w=.ok n w:=by
 unfold dy at h;split at h
 ·cases h
 ·rename_i d hd
  split at h
  ·cases h
  ·rename_i i hi
   simp only[Y2,Wv]at h
   obtain⟨h1,rfl⟩:=h
   refine⟨?_,qP hi w⟩
   unfold isAgg;simp only[Y7,Y6 hd,Result.andThen_ok];subst h1
   cases d<;>rfl
def AB(P:Program)(s:TypeId)(f:Nat):Option Field:=
 match P.underlying s with
 |some (.struct fs)=>fs[f]?
 |_=>none
def ng(P:Program)(t:TypeId)(row:List AV)(c:Nat):Option AV:=
 match dy P t with
 |some (true,n)=>if c+n≤row.length then some (.agg ((row.drop c).take n))else none
 |some (false,_)=>row[c]?
 |none=>none
def C2:Value→AV
 |.int k n=>.int k n
 |.bool b=>.bool b
 |.string s=>.str s.data.toList
 |.slice none 0 0=>.dq
 |.pointer none=>.ei (.pointer none)
 |.map none=>.ei (.map none)
 |.nilFunc=>.ei .nilFunc
 |.nilIface=>.ei .nilIface
 |_=>.undef
def lZ:Value→AV
 |.agg cs=>.agg (cs.toList.map C2)
 |v=>C2 v
theorem LZ{S:Nat→Prop}{w:World}(v:Value):bR S w (C2 v) v:=by
 unfold C2
 split<;>first|exact .int _ _|exact .bool _|exact .str _|exact .dq _|exact .ei _ rfl|exact .undef _
theorem s7{S:Nat→Prop}{w:World}(v:Value):bR S w (lZ v) v:=by
 unfold lZ;split
 ·rename_i cs
  refine .agg _ cs (by simp) (fun j x v hx hv=>?_)
  rw[Yn]at hx
  have:cs.toList[j]? =some v:=by simpa using hv
  rw[this]at hx;simp only[Yo,Y2]at hx;subst hx;exact LZ v
 ·exact LZ _
def gD(G:db)(g:Nat→AV):Operand→AV
 |.tmp t=>g t
 |.const v=>lZ v
 |.global n=>match G n with|some row=>.rp row 0|none=>.undef
 |.func f=>bif Nat.blt f FB then .fn f []else .undef
theorem Inv.ev{C:Cx}{S:Nat→Prop}{ι:ax}{un:Nat→Prop}{f:FS}{a:Act}{w:World}
 (h:Inv C S ι un f a w) (x:Operand):bP S w ι (gD C.G f.g x) (a.eval x):=by
 cases x with
 |tmp t=>exact h.tm t
 |const v=>exact .bI _ _ (s7 v)
 |global n=>
  simp only[gD,Act.eval];split
  ·rename_i row hr;exact .bI _ _ (h.gv n row hr).1
  ·exact .bI _ _ (.undef _)
 |func g=>
  simp only[gD,Act.eval]
  cases hg:Nat.blt g FB with
  |true=>
   simp only[Y5]
   have:=bR.fn (S:=S) (w:=w) g [] #[] rfl (fun j x v hx=>by simp)
   rw[vQ hg]at this;exact .bI _ _ this
  |false=>exact .bI _ _ (.undef _)
def bU(op:BinOp)(k:IntKind)(x y:Int):Int:=
 k.wrap ((match op with
  |.and=>BitVec.ofInt k.bits x&&& BitVec.ofInt k.bits y
  |.or=>BitVec.ofInt k.bits x|||BitVec.ofInt k.bits y
  |.xor=>BitVec.ofInt k.bits x^^^BitVec.ofInt k.bits y
  |_=>BitVec.ofInt k.bits x&&& ~~~(BitVec.ofInt k.bits y):BitVec k.bits).toNat)
def zm(op:BinOp)(k:IntKind)(a b:Int):Option AV:=
 match op with
 |.add=>some (.int k (k.wrap (a+b)))
 |.sub=>some (.int k (k.wrap (a-b)))
 |.mul=>some (.int k (k.wrap (a*b)))
 |.and=>some (.int k (bU .and k a b))
 |.or=>some (.int k (bU .or k a b))
 |.xor=>some (.int k (bU .xor k a b))
 |.andNot=>some (.int k (bU .andNot k a b))
 |.eql=>some (.bool (a==b))
 |.neq=>some (.bool (a != b))
 |.lss=>some (.bool (decide (a<b)))
 |.leq=>some (.bool (decide (a≤b)))
 |.gtr=>some (.bool (decide (b<a)))
 |.geq=>some (.bool (decide (b≤a)))
 |_=>none
def yZ(op:BinOp)(a b:List UInt8):Option AV:=
 match op with
 |.eql=>some (.bool (a==b))
 |.neq=>some (.bool (!(a==b)))
 |.lss=>some (.bool (Op.bytesLess a b))
 |.leq=>some (.bool (Op.bytesLess a b||a==b))
 |.gtr=>some (.bool (!(Op.bytesLess a b||a==b)))
 |.geq=>some (.bool (!Op.bytesLess a b))
 |_=>none
def ja(rc:TypeId→List AV→List AV→Nat→Option Bool):List Field→List AV→List AV→Nat→Option Bool
 | [],_,_,_=>some true
 |f::r,xs,ys,c=>match rc f.type xs ys (c+f.offset),ja rc r xs ys c with
  |some a,some b=>some (a&&b)
  |_,_=>none
def kI(P:Program):Nat→TypeId→List AV→List AV→Nat→Option Bool
 |0,_,_,_,_=>none
 |d+1,t,xs,ys,c=>
  match P.underlying t with
  |some (.int _)=>match xs[c]?,ys[c]? with|some (.int k a),some (.int k' b)=>if k=k' then some (a==b)else none|_,_=>none
  |some .string=>match xs[c]?,ys[c]? with|some (.str a),some (.str b)=>some (a==b)|_,_=>none
  |some .bool=>match xs[c]?,ys[c]? with|some (.bool a),some (.bool b)=>some (a==b)|_,_=>none
  |some (.struct fs)=>ja (kI P d) fs.toList xs ys c
  |_=>none
def kJ(P:Program):Nat→TypeId→Bool
 |0,_=>false
 |d+1,t=>
  match P.underlying t with
  |some (.struct fs)=>!P.stoodInHeld t&&(dy P t).isSome&&fs.all fun f=>f.name != "_" &&kJ P d f.type&&decide (f.offset+P.cellsOf f.type≤P.cellsOf t)
  |some (.int _)|some .string|some .bool=>P.cellsOf t==1
  |_=>false
def bin(P:Program)(op:BinOp)(t:TypeId)(x y:AV):Option AV:=
 match x,y with
 |.int k a,.int k' b=>if k=k' then zm op k a b else none
 |.str a,.str b=>yZ op a b
 |.bool a,.bool b=>match P.underlying t with
  |some .bool=>(match op with|.eql=>some (.bool (a==b))|.neq=>some (.bool (!(a==b)))|_=>none)
  |_=>none
 |.ptr ..,.ei (.pointer none)|.ei (.pointer none),.ptr .. |.rp ..,.ei (.pointer none)|.ei (.pointer none),.rp .. =>match P.underlying t with
  |some (.pointer _)=>(match op with|.eql=>some (.bool false)|.neq=>some (.bool true)|_=>none)
  |_=>none
 |.ei (.pointer none),.ei (.pointer none)=>match P.underlying t with
  |some (.pointer _)=>(match op with|.eql=>some (.bool true)|.neq=>some (.bool false)|_=>none)
  |_=>none
 |_,_=>none
def IJ(op:UnOp)(x:AV):Option AV:=
 match op,x with
 |.neg,.int k n=>some (.int k (k.wrap (0-n)))
 |.xor,.int k n=>some (.int k (bU .xor k (if k.signed then -1 else k.max) n))
 |.not,.bool b=>some (.bool !b)
 |_,_=>none
def fp(ev:Operand→AV)(place:Nat→Option (Nat×Nat)):List (Nat×Operand)→List AV→Option (List AV)
 | [],cs=>some cs
 |(i,x)::r,cs=>
  match place i,kA (ev x)with
  |some (off,n),some vs=>if vs.length=n∧off+n≤cs.length then fp ev place r (setAt cs off vs)else none
  |_,_=>none
def ie(P:Program)(t:TypeId):Option (List AV):=
 match P.info? t with
 |none=>none
 |some i=>match i.zero with
  |some v=>kA (lZ v)
  |none=>none
def C5(P:Program)(fs:Array Field)(i:Nat):Option (Nat×Nat):=
 match fs[i]? with
 |some f=>match P.info? f.type with|some j=>some (f.offset,j.size)|none=>none
 |none=>none
def vP(P:Program)(ev:Operand→AV)(t:TypeId)(parts:Array (Nat×Operand)):Option AV:=
 match ie P t with
 |none=>none
 |some z=>match P.underlying t with
  |some (.struct fs)=>if(fs.toList.all fun f=>(P.info? f.type).isSome)=true then(fp ev (C5 P fs) parts.toList z).map .agg else none
  |some (.array _ e)=>match P.info? e with
   |some j=>(fp ev (fun i=>some (i*j.size,j.size)) parts.toList z).map .agg
   |none=>none
  |_=>none
def nO(P:Program)(t:TypeId)(x:AV):Option AV:=
 match P.underlying t,x with
 |some .string,.str l=>some (.int .i64 l.length)
 |some (.slice _),.sl xs=>some (.int .i64 xs.length)
 |some (.slice _),.eN _ _ n _=>some (.int .i64 n)
 |some (.slice _),.dq=>some (.int .i64 0)
 |some (.array n _),_=>some (.int .i64 n)
 |_,_=>none
def eB(P:Program)(ev:Operand→AV):Op→Option AV
 |.move x=>some (ev x)
 |.assign x=>some (ev x)
 |.fieldAddr s x i=>match AB P s i with
  |none=>none
  |some fd=>match dy P fd.type with
   |some (_,_+1)=>(match ev x with|.ptr o r c=>some (.ptr o r (c+fd.offset))|.rp row c=>some (.rp row (c+fd.offset))|_=>none)
   |_=>none
 |.field s x i=>match AB P s i with
  |none=>none
  |some fd=>match ev x with|.agg cs=>ng P fd.type cs fd.offset|_=>none
 |.unOp op _ x=>IJ op (ev x)
 |.binOp op t x y _=>bin P op t (ev x) (ev y)
 |.extract t i=>match ev t with|.bN vs=>vs[i]? |_=>none
 |.build t parts=>vP P ev t parts
 |.makeFunc (.func f) first cap=>bif first.isEmpty then(bif Nat.blt f FB then some (.fn f (cap.toList.map ev))else none)else(bif cap.isEmpty then some (.fn (FB+f) (first.toList.map ev))else none)
 |.nilCheck x=>match ev x with|.ptr o r c=>some (.ptr o r c)|.rp row c=>some (.rp row c)|.fn f c=>some (.fn f c)|_=>none
 |.convert s d x=>match P.underlying s,P.underlying d,ev x with
  |some _,some (.int k),.int _ n=>some (.int k (k.wrap n))
  |some _,some .string,.str l=>some (.str l)
  |_,_,_=>none
 |.call {callee:=.builtin .len,args,argTypes}=>match argTypes[0]?,args[0]? with
  |some t,some x=>nO P t (ev x)
  |_,_=>none
 |.call {callee:=.builtin .max,args,..}=>match args.toList with
  | [x,y]=>(match ev x,ev y with
   |.int k a,.int _ b=>some (.int k (if b>a then b else a))
   |.str a,.str b=>some (.str (if !Op.bytesLess a b then a else b))
   |_,_=>none)
  |_=>none
 |.call {callee:=.builtin .min,args,..}=>match args.toList with
  | [x,y]=>(match ev x,ev y with
   |.int k a,.int _ b=>some (.int k (if b<a then b else a))
   |_,_=>none)
  | [x,y,z]=>(match ev x,ev y,ev z with
   |.int k a,.int _ b,.int _ c=>some (.int k (if c<(if b<a then b else a)then c else(if b<a then b else a)))
   |_,_,_=>none)
  |_=>none
 |_=>none
section
variable {S:Nat→Prop}{w:World}{ι:ax}{P:Program}
theorem az.get{cs:List AV}{vs:List Value}(h:az S w ι cs vs){j:Nat}{x:AV}(hx:cs[j]? =some x):∃v,vs[j]? =some v∧bP S w ι x v:=by
 have hj:j<cs.length:=by
  rcases YY j cs.length with h|h
  ·exact h
  ·simp_all
 have:j<vs.length:=by rw[←h.1];exact hj
 exact⟨vs[j],Y3 this,h.2 j x _ hx (Y3 this)⟩
theorem az.agg{cs:List AV}{vs:Array Value}(h:az S w ι cs vs.toList):bP S w ι (.agg cs) (.agg vs):=
 .agg _ _ (by simpa using h.1) (fun j x v hx hv=>h.2 j x v hx (by simp_all))
theorem J9{t:TypeId}{cs:List AV}{vs:Array Value}(h:az S w ι cs vs.toList){c:Nat}{x:AV}(hl:ng P t cs c=some x):
 ∃v,(part t vs c).run P w=.ok v w∧bP S w ι x v:=by
 unfold ng at hl;split at hl
 ·rename_i n hk
  split at hl
  ·rename_i hc
   injection hl with hl
   subst hl
   obtain⟨h1,h2⟩:=pB hk w
   refine⟨.agg (vs.extract c (c+n)),by unfold part;simp[h1,h2],?_⟩
   have e:(vs.extract c (c+n)).toList=(vs.toList.drop c).take n:=by
    simp[Array.toList_extract,List.extract_eq_take_drop]
   have hr:=(h.drop c).take n
   rw[←e]at hr;exact hr.agg
  grind
 ·rename_i n hk
  obtain⟨h1,h2⟩:=pB hk w
  obtain⟨v,hv,hr⟩:=h.get hl
  refine⟨v,?_,hr⟩
  have:vs[c]? =some v:=by simpa using hv
  unfold part;simp_all
 grind
theorem K2(a b:List UInt8):((⟨a.toArray⟩:ByteArray)==⟨b.toArray⟩)=(a==b):=by
 rw[beq_toListBytes];simp
theorem Mv{t e:TypeId}(ht:P.underlying t=some (.pointer e))(d:Nat)(a b:Option Addr){r:Bool}
 (h:(match a,b with|none,b=>some b.isNone|_,none=>some false|_,_=>none)=some r):
 (Op.equalIn (d+1) t (.pointer a) (.pointer b)).run P w=.ok r w:=by
 cases a<;>cases b<;>simp only[Y2,reduceCtorEq]at h<;>subst h<;>simp[Op.equalIn,Y6 ht]
theorem AP{t e:TypeId}(ht:P.underlying t=some (.pointer e))(a b:Option Addr){r:Bool}(h:(match a,b with|none,b=>some b.isNone|_,none=>some false|_,_=>none)=some r):
 (binOp .eql t (.pointer a) (.pointer b)).run P w=.ok (.bool r) w:=by
 have:=Mv (w:=w) ht 9999 a b h
 have h2:(Op.equal t (.pointer a) (.pointer b)).run P w=.ok r w:=this
 simp only[binOp];simp[h2]
theorem AQ{t e:TypeId}(ht:P.underlying t=some (.pointer e))(a b:Option Addr){r:Bool}(h:(match a,b with|none,b=>some b.isNone|_,none=>some false|_,_=>none)=some r):
 (binOp .neq t (.pointer a) (.pointer b)).run P w=.ok (.bool !r) w:=by
 have:=Mv (w:=w) ht 9999 a b h
 have h2:(Op.equal t (.pointer a) (.pointer b)).run P w=.ok r w:=this
 simp only[binOp];simp[h2]
theorem Po{op:BinOp}{t:TypeId}{x y v:AV}{x' y':Value}(h:bin P op t x y=some v)(hx:bP S w ι x x')(hy:bP S w ι y y')(ox oy:Operand):
 ∃v',(do eqGuard op t ox oy x' y';binOp op t x' y':Sem Value).run P w=.ok v' w∧bP S w ι v v':=by
 unfold bin at h;split at h
 ·
  rw[hx.bu,hy.bu];rename_i k a k' b;split at h
  ·rename_i e
   subst e;simp only[eqGuard_at_int,Y7,Sem.run_pure,Result.andThen_ok];unfold zm at h
   cases op<;>simp only[Y2,reduceCtorEq]at h<;>subst h
   all_goals first
    |(refine⟨_,?_,.bI _ _ (.int _ _)⟩;simp only[binOp_add,binOp_sub,binOp_mul,Op.intArith,Sem.run_pure];done)
    |(refine⟨_,?_,.bI _ _ (.int _ _)⟩;simp only[binOp_and,binOp_or,binOp_xor,binOp_andNot,Op.intBits,bU,Sem.run_pure];done)
    |(refine⟨_,?_,.bI _ _ (.bool _)⟩;simp only[binOp_eql,binOp_neq,binOp_lss,binOp_leq,binOp_gtr,binOp_geq,Sem.run_pure];done)
    |(refine⟨_,?_,.bI _ _ (.bool _)⟩;simp only[binOp_eql,binOp_neq,binOp_lss,binOp_leq,binOp_gtr,binOp_geq,Sem.run_pure];rfl)
  ·cases h
 ·
  rw[hx.cx,hy.cx];rename_i a b;simp only[eqGuard_at_string,Y7,Sem.run_pure,Result.andThen_ok];unfold yZ at h
  cases op<;>simp only[Y2,reduceCtorEq]at h<;>subst h
  all_goals (refine⟨_,?_,.bI _ _ (.bool _)⟩;simp[binOp,Op.stringOp])
 ·
  rw[hx.dp,hy.dp];split at h
  ·rename_i ht
   simp only[eqGuard_at_bool,Y7,Sem.run_pure,Result.andThen_ok];split at h
   ·injection h with h;subst h
    exact⟨_,run_eql_bool w t _ _ ht,.bI _ _ (.bool _)⟩
   ·injection h with h;subst h
    exact⟨_,run_neq_bool w t _ _ ht,.bI _ _ (.bool _)⟩
   ·cases h
  ·cases h
 ·
  obtain⟨l,_,rfl⟩:=hx.cZ
  rw[hy.gG];split at h
  ·rename_i e ht
   simp only[WS,Y7,Sem.run_pure,Result.andThen_ok];split at h
   ·injection h with h;subst h
    exact⟨_,AP ht _ _ rfl,.bI _ _ (.bool _)⟩
   ·injection h with h;subst h
    exact⟨_,AQ ht _ _ rfl,.bI _ _ (.bool _)⟩
   ·cases h
  ·cases h
 ·obtain⟨l,_,rfl⟩:=hy.cZ
  rw[hx.gG];split at h
  ·rename_i e ht
   simp only[WS,Y7,Sem.run_pure,Result.andThen_ok];split at h
   ·injection h with h;subst h
    exact⟨_,AP ht _ _ rfl,.bI _ _ (.bool _)⟩
   ·injection h with h;subst h
    exact⟨_,AQ ht _ _ rfl,.bI _ _ (.bool _)⟩
   ·cases h
  ·cases h
 ·have:∃p,x'=.pointer (some p):=by cases hx with|bI _ _ h=>cases h;simp
  obtain⟨p,rfl⟩:=this
  rw[hy.gG];split at h
  ·rename_i e ht
   simp only[WS,Y7,Sem.run_pure,Result.andThen_ok];split at h
   ·injection h with h;subst h
    exact⟨_,AP ht _ _ rfl,.bI _ _ (.bool _)⟩
   ·injection h with h;subst h
    exact⟨_,AQ ht _ _ rfl,.bI _ _ (.bool _)⟩
   ·cases h
  ·cases h
 ·have:∃p,y'=.pointer (some p):=by cases hy with|bI _ _ h=>cases h;simp
  obtain⟨p,rfl⟩:=this
  rw[hx.gG];split at h
  ·rename_i e ht
   simp only[WS,Y7,Sem.run_pure,Result.andThen_ok];split at h
   ·injection h with h;subst h
    exact⟨_,AP ht _ _ rfl,.bI _ _ (.bool _)⟩
   ·injection h with h;subst h
    exact⟨_,AQ ht _ _ rfl,.bI _ _ (.bool _)⟩
   ·cases h
  ·cases h
 ·rw[hx.gG,hy.gG]
  split at h
  ·rename_i e ht
   simp only[WS,Y7,Sem.run_pure,Result.andThen_ok];split at h
   ·injection h with h;subst h
    exact⟨_,AP ht _ _ rfl,.bI _ _ (.bool _)⟩
   ·injection h with h;subst h
    exact⟨_,AQ ht _ _ rfl,.bI _ _ (.bool _)⟩
   ·cases h
  ·cases h
 ·cases h
theorem Q6(off:Nat):∀(vs:List Value) (k:Nat) (cells:Array Value),off+k+vs.length≤cells.size→
 ((vs.zipIdx k).foldl (fun cs (x:Value×Nat)=>cs.setIfInBounds (off+x.2) x.1) cells).toList=setAt cells.toList (off+k) vs:=by
 intro vs
 induction vs with
 |nil=>
  intro k cells h;simp only[List.zipIdx_nil,List.foldl_nil,setAt,YL,YB,Nat.add_zero];simp
 |cons v r ih=>
  intro k cells h;simp only[Ye]at h;simp only[List.zipIdx_cons,List.foldl_cons]
  rw[ih (k+1) _ (by grind)]
  apply Vi;intro j
  rw[wu _ _ _ (by grind),wu _ _ _ (by omega)]
  grind
theorem Dd{ev:Operand→AV}{ρ:Operand→Value}(hr:∀x,bP S w ι (ev x) (ρ x))(place:Nat→Option (Nat×Nat)):
 ∀(parts:List (Nat×Operand)) (cs:List AV) (cells:Array Value) (out:List AV),az S w ι cs cells.toList→fp ev place parts cs=some out→
  ∃cF,Instr.fill place cells (parts.map fun x=>(x.1,ρ x.2))=some cF∧az S w ι out cF.toList:=by
 intro parts
 induction parts with
 |nil=>
  intro cs cells out hc h;simp only[fp,Y2]at h;subst h;exact⟨cells,rfl,hc⟩
 |cons p r ih=>
  intro cs cells out hc h
  obtain⟨i,x⟩:=p
  simp only[fp]at h;split at h
  ·rename_i off n vs hp hv
   split at h
   ·rename_i j9
    obtain⟨xj,_⟩:=yf hv (hr x)
    have hl:=xj.1
    have hcl:=hc.1
    have hsz:(ρ x).cells.size=n:=by rw[←Array.length_toList,←hl];exact j9.1
    have zT:=Q6 off (ρ x).cells.toList 0 cells (by simp_all)
    have jn:az S w ι (setAt cs off vs) ((ρ x).cells.zipIdx.foldl (fun cs (x:Value×Nat)=>cs.setIfInBounds (off+x.2) x.1) cells).toList:=by
     rw[←Array.foldl_toList,Array.toList_zipIdx,zT]
     exact az.setAt off hc xj (by omega)
    obtain⟨cF,h1,h2⟩:=ih _ _ out jn h
    refine⟨cF,?_,h2⟩
    simp only[Yp,Instr.fill,hp];simp_all
   ·cases h
  ·cases h
theorem Vt(P:Program)(w:World):∀(fs:List Field),(fs.all fun f=>(P.info? f.type).isSome)=true→
 (fs.mapM (fun f=>do pure (f.offset,←sizeOf f.type)):Sem (List (Nat×Nat))).run P w=.ok (fs.map fun f=>(f.offset,((P.info? f.type).map (·.size)).getD 0)) w:=by
 intro fs
 induction fs with
 |nil=>simp
 |cons f r ih=>
  intro h;simp only[List.all_cons,Y9]at h
  obtain⟨i,hi⟩:=YW.1 h.1
  simp only[List.mapM_cons,Y7,qP hi,Result.andThen_ok,Sem.run_pure,ih h.2,Yp,hi,Yo,Yv]
theorem K1{ev:Operand→AV}{ρ:Operand→Value}(hr:∀x,bP S w ι (ev x) (ρ x)){t:TypeId}{parts:Array (Nat×Operand)}{v:AV}
 (h:vP P ev t parts=some v):∃v',(Instr.build t (parts.map fun(i,x)=>(i,ρ x))).run P w=.ok v' w∧bP S w ι v v':=by
 unfold vP at h;split at h
 ·cases h
 ·rename_i z hz
  unfold ie at hz;split at hz
  ·cases hz
  ·rename_i i hi
   split at hz
   ·rename_i zv kS
    have hzero:(zeroValue t).run P w=.ok zv w:=by simp[zeroValue,typeInfo,hi,kS]
    obtain⟨ku,_⟩:=yf hz (bP.bI (S:=S) (w:=w) (ι:=ι) _ _ (s7 zv))
    have nU:(parts.map fun(i,x)=>(i,ρ x)).toList=parts.toList.map fun x=>(x.1,ρ x.2):=by simp
    split at h
    ·rename_i fs ht
     split at h
     ·rename_i eg
      simp only[Yj]at h
      obtain⟨out,ho,rfl⟩:=h
      have eK:(fun i=>(fs.toList.map fun f=>(f.offset,((P.info? f.type).map (·.size)).getD 0)).toArray[i]?)=C5 P fs:=by
       funext j
       simp only[C5,List.getElem?_toArray,Yn,Wh]
       cases hj:fs[j]? with
       |none=>rfl
       |some f=>
        grind
      obtain⟨cF,h1,h2⟩:=Dd hr (C5 P fs) parts.toList z zv.cells out ku ho
      refine⟨.agg cF,?_,h2.agg⟩
      unfold Instr.build
      have hm:(fs.mapM (fun f=>do pure (f.offset,←sizeOf f.type)):Sem (Array (Nat×Nat))).run P w=
       .ok (fs.toList.map fun f=>(f.offset,((P.info? f.type).map (·.size)).getD 0)).toArray w:=by
       rw[Array.mapM_eq_mapM_toList];simp only[Sem.run_map,Vt P w fs.toList eg,Result.andThen_ok]
      simp only[Y7,hzero,Result.andThen_ok,Y6 ht,hm,nU];simp_all
     ·cases h
    ·rename_i n e ht
     split at h
     ·rename_i j hj
      simp only[Yj]at h
      obtain⟨out,ho,rfl⟩:=h
      obtain⟨cF,h1,h2⟩:=Dd hr (fun i=>some (i*j.size,j.size)) parts.toList z zv.cells out ku ho
      refine⟨.agg cF,?_,h2.agg⟩
      unfold Instr.build;simp only[Y7,hzero,Result.andThen_ok,Y6 ht,qP hj,nU];simp_all
     ·cases h
    ·cases h
   grind
theorem PC{t ty:TypeId}{x v:AV}{x':Value}(h:nO P t x=some v)(hx:bP S w ι x x')(ts:Array TypeId)(mI:ts[0]? =some t)(xs:Array Value)(lS:xs[0]? =some x'):
 ∃v',(Builtin.len_ ts ty xs).run P w=.ok v' w∧bP S w ι v v':=by
 unfold nO at h;split at h
 ·rename_i l ht
  injection h with h;subst h
  rw[hx.cx]at lS
  have e:(⟨l.toArray⟩:ByteArray).size=l.length:=by show l.toArray.size=_;simp
  exact⟨.int .i64 l.length,by simp[Builtin.len_,mI,lS,Y6 ht,goInt,e],.bI _ _ (.int _ _)⟩
 ·rename_i e fa ht
  injection h with h;subst h
  refine⟨.int .i64 fa.length,?_,.bI _ _ (.int _ _)⟩
  cases hx with
  |bI _ _ hx=>cases hx<;>simp[Builtin.len_,mI,lS,Y6 ht,goInt]
 ·rename_i e o off n room ht
  injection h with h;subst h
  refine⟨.int .i64 n,?_,.bI _ _ (.int _ _)⟩
  cases hx with
  |bI _ _ hx=>cases hx
  |eN=>simp[Builtin.len_,mI,lS,Y6 ht,goInt]
  |iG=>simp[Builtin.len_,mI,lS,Y6 ht,goInt]
 ·rename_i e ht
  injection h with h;subst h
  refine⟨.int .i64 0,?_,.bI _ _ (.int _ _)⟩
  cases hx with
  |bI _ _ hx=>cases hx;simp[Builtin.len_,mI,lS,Y6 ht,goInt]
 ·rename_i n e ht
  injection h with h;subst h
  exact⟨.int .i64 n,by simp[Builtin.len_,mI,lS,Y6 ht,goInt],.bI _ _ (.int _ _)⟩
 ·cases h
end
section
variable {S:Nat→Prop}{w:World}{ι:ax}{P:Program}
theorem v7(b o n:Nat):(⟨b,o,none⟩:Addr).add n=⟨b,o+n,none⟩:=Addr.add_lit b o n
theorem az.CR{f:Nat}{cs:List AV}{vs:Array Value}(h:az S w ι cs vs.toList):bP S w ι (.fn f cs) (nc f vs):=
 .fn _ _ _ (by simpa using h.1) (fun j x v hx hv=>h.2 j x v hx (by simp_all))
theorem az.jQ{cs:List AV}{vs:Array Value}(h:az S w ι cs vs.toList):bP S w ι (.bN cs) (.tuple vs):=
 .bN _ _ (by simpa using h.1) (fun j x v hx hv=>h.2 j x v hx (by simp_all))
theorem az.map{α:Type}{e:α→AV}{ρ:α→Value}(h:∀x,bP S w ι (e x) (ρ x))(l:List α):az S w ι (l.map e) (l.map ρ):=by
 refine⟨by simp,fun j x v hx hv=>?_⟩
 grind
theorem Ml{s:TypeId}{i:Nat}{fd:Field}{n:Nat}{b:Bool}(hf:AB P s i=some fd)(hk:dy P fd.type=some (b,n+1))(bl o:Nat):
 (Instr.fieldAt s (.pointer (some ⟨bl,o,none⟩)) i).run P w=.ok (.pointer (some ⟨bl,o+fd.offset,none⟩)) w:=by
 unfold AB at hf;split at hf
 ·rename_i fs hs
  obtain⟨_,h2⟩:=pB hk w
  unfold Instr.fieldAt fieldPlace;simp only[Y7,Y6 hs,Result.andThen_ok,hf,Instr.sureAddr,Sem.run_pure,h2,Nat.add_one_ne_zero,Yc,v7]
 grind
theorem P5{ev:Operand→AV}{ρ:Operand→Value}(hr:∀x,bP S w ι (ev x) (ρ x))(o:Oper){v:AV}(h:eB P ev o.op=some v):
 ∃v',(execOp ρ o).run P w=.ok (.value v') w∧bP S w ι v v':=by
 have lift:∀(s:Sem Value),(∃v',s.run P w=.ok v' w∧bP S w ι v v')→∃v',(do pure (Next.value (←s)):Sem Next).run P w=.ok (.value v') w∧bP S w ι v v':=by
  rintro s ⟨v',h1,h2⟩
  exact⟨v',by simp_all,h2⟩
 unfold eB at h;split at h
 ·rename_i x ho
  injection h with h;subst h
  exact⟨ρ x,by unfold execOp;rw[ho];rfl,hr x⟩
 ·rename_i x ho
  injection h with h;subst h
  exact⟨ρ x,by unfold execOp;rw[ho];rfl,hr x⟩
 ·
  rename_i s x i ho;split at h
  ·cases h
  ·rename_i fd hf
   split at h
   ·rename_i bb n hk
    have hx:=hr x
    unfold execOp;rw[ho]
    refine lift _ ?_
    split at h
    ·rename_i ob r c hev
     injection h with h;subst h
     rw[hev]at hx
     obtain⟨l,hl,hv⟩:=hx.cZ
     rw[hv]
     refine⟨_,Ml hf hk _ _,?_⟩
     have:=bP.ptr (S:=S) (w:=w) ob r (c+fd.offset) l hl
     grind
    ·rename_i row c hev
     injection h with h;subst h
     rw[hev]at hx
     cases hx with
     |bI _ _ hx=>
      generalize X5:ρ x=vx at hx
      cases hx with
      |rp _ _ bd base vals hS hl hcell hrep=>
       refine⟨_,Ml hf hk _ _,?_⟩
       rw[WB];exact .bI _ _ (.rp row (c+fd.offset) bd base vals hS hl hcell hrep)
    ·cases h
   ·cases h
 ·
  rename_i s x i ho;split at h
  ·cases h
  ·rename_i fd hf
   have hx:=hr x
   unfold execOp;rw[ho]
   refine lift _ ?_
   split at h
   ·rename_i cs hev
    rw[hev]at hx
    obtain⟨vs,hv,hL⟩:=hx.dG
    unfold AB at hf;split at hf
    ·rename_i fs hs
     obtain⟨v',h1,h2⟩:=J9 hL h
     refine⟨v',?_,h2⟩
     unfold Instr.field;simp only[Y7,Y6 hs,Result.andThen_ok,hf,hv,asAgg,Sem.run_pure];exact h1
    grind
   ·cases h
 ·
  rename_i op t x ho
  have hx:=hr x
  unfold execOp;rw[ho]
  refine lift _ ?_
  unfold IJ at h;split at h
  ·rename_i k n hev
   injection h with h;subst h
   rw[hev]at hx;rw[hx.bu]
   exact⟨_,by rfl,.bI _ _ (.int _ _)⟩
  ·rename_i k n hev
   injection h with h;subst h
   rw[hev]at hx;rw[hx.bu]
   exact⟨_,by rfl,.bI _ _ (.int _ _)⟩
  ·rename_i b hev
   injection h with h;subst h
   rw[hev]at hx;rw[hx.dp]
   exact⟨_,by rfl,.bI _ _ (.bool _)⟩
  ·cases h
 ·
  rename_i op t x y t' ho;unfold execOp;rw[ho]
  refine lift _ ?_
  exact Po h (hr x) (hr y) x y
 ·
  rename_i t i ho
  have hx:=hr t
  unfold execOp;rw[ho]
  refine lift _ ?_
  split at h
  ·rename_i vs hev
   rw[hev]at hx
   obtain⟨us,hv,hL⟩:=hx.gA
   obtain⟨u,hu,Ob⟩:=hL.get h
   rw[hv]
   have N7:us[i]? =some u:=by simpa using hu
   exact⟨u,by simp only[Instr.extract,N7,Sem.run_pure],Ob⟩
  ·cases h
 ·
  rename_i t parts ho;unfold execOp;rw[ho]
  refine lift _ ?_
  exact K1 hr h
 ·
  rename_i f first cap ho
  unfold execOp;rw[ho]
  refine lift _ ?_
  cases mX:first.isEmpty with
  |true=>
   rw[mX]at h;simp only[Y5]at h
   cases hlt:Nat.blt f FB with
   |false=>simp_all
   |true=>
    rw[hlt]at h
    injection h with h;subst h
    have hf:first=#[]:=by simpa using mX
    subst hf
    refine⟨nc f (cap.map ρ),by rw[vQ hlt];simp[Instr.makeFunc],az.CR ?_⟩
    rw[WY];exact az.map hr _
  |false=>
   rw[mX]at h;simp only[Y8]at h
   cases hcap:cap.isEmpty with
   |false=>simp_all
   |true=>
    rw[hcap]at h
    injection h with h;subst h
    have hf:cap=#[]:=by simpa using hcap
    subst hf
    have hge:Nat.blt (FB+f) FB=false:=by
     cases hb:Nat.blt (FB+f) FB with
     |false=>rfl
     |true=>
      have:=W5 hb
      omega
    refine⟨nc (FB+f) (first.map ρ),by unfold nc;rw[hge,Vh];simp[Instr.makeFunc],az.CR ?_⟩
    rw[WY];exact az.map hr _
 ·
  rename_i x ho
  have hx:=hr x
  unfold execOp;rw[ho];split at h
  ·rename_i ob r c hev
   injection h with h;subst h
   rw[hev]at hx
   obtain⟨l,hl,hv⟩:=hx.cZ
   simp_all
  ·rename_i row c hev
   injection h with h;subst h
   rw[hev]at hx
   refine⟨ρ x,?_,hx⟩
   have:∃p,ρ x=.pointer (some p):=by
    cases hx with
    |bI _ _ hx=>generalize ρ x=vx at hx⊢;cases hx;simp
   obtain⟨p,hp⟩:=this
   simp_all
  ·rename_i sO cap hev
   injection h with h;subst h
   rw[hev]at hx
   obtain⟨us,hv,hL⟩:=hx.gC
   refine⟨ρ x,?_,hx⟩
   obtain⟨a1,b1,c1,hh⟩:∃a1 b1 c1,nc sO us=.func (.func a1) b1 c1:=by
    unfold nc;cases Nat.blt sO FB
    all_goals simp
   simp_all
  ·cases h
 ·
  rename_i s d x ho
  have hx:=hr x
  unfold execOp;rw[ho]
  refine lift _ ?_
  split at h
  ·rename_i ds k k' n hs hd hev
   injection h with h;subst h
   rw[hev]at hx;rw[hx.bu]
   exact⟨.int k (k.wrap n),by simp[convert,Y6 hs,Y6 hd,Conv.intToInt],.bI _ _ (.int _ _)⟩
  ·rename_i ds l hs hd hev
   injection h with h;subst h
   rw[hev]at hx;rw[hx.cx]
   exact⟨_,by simp[convert,Y6 hs,Y6 hd],.bI _ _ (bR.jm l)⟩
  ·cases h
 ·
  rename_i args ts ho;unfold execOp;rw[ho];split at h
  ·rename_i t x ht hx
   obtain⟨v',h1,h2⟩:=PC (ty:=o.type) h (hr x) ts ht (args.map ρ) (by simp[hx])
   refine⟨v',?_,h2⟩
   simp only[resolve,invoke,builtin,Y7,Sem.run_pure,Result.andThen_ok,h1]
  ·cases h
 ·
  rename_i args ts ho;unfold execOp;rw[ho];split at h
  ·rename_i x y hl
   have ha:args=#[x,y]:=by apply Array.ext';simpa using hl
   subst ha
   have hx:=hr x;have hy:=hr y
   split at h
   ·rename_i k a k' b mZ mY
    injection h with h;subst h
    rw[mZ]at hx;rw[mY]at hy
    refine⟨.int k (if b>a then b else a),?_,.bI _ _ (.int _ _)⟩
    simp[resolve,invoke,builtin,hx.bu,hy.bu,run_max_int2]
   ·rename_i a b mZ mY
    injection h with h;subst h
    rw[mZ]at hx;rw[mY]at hy
    refine⟨.string ⟨(if !Op.bytesLess a b then a else b).toArray⟩,?_,.bI _ _ (bR.jm _)⟩
    simp only[resolve,invoke,builtin,Y7,Sem.run_pure,Result.andThen_ok,List.map_toArray,Yp,Vr,hx.cx,hy.cx,Builtin.max_];simp[Builtin.max2,Op.stringOp,asBool]
    grind
   ·cases h
  ·cases h
 ·
  rename_i args ts ho;unfold execOp;rw[ho];split at h
  ·rename_i x y hl
   have ha:args=#[x,y]:=by apply Array.ext';simpa using hl
   subst ha
   have hx:=hr x;have hy:=hr y
   split at h
   ·rename_i k a k' b mZ mY
    injection h with h;subst h
    rw[mZ]at hx;rw[mY]at hy
    refine⟨.int k (if b<a then b else a),?_,.bI _ _ (.int _ _)⟩
    simp[resolve,invoke,builtin,hx.bu,hy.bu,run_min_int2]
   ·cases h
  ·rename_i x y z hl
   have ha:args=#[x,y,z]:=by apply Array.ext';simpa using hl
   subst ha
   have hx:=hr x;have hy:=hr y;have hz:=hr z
   split at h
   ·rename_i k a k' b XX c mZ mY FO
    injection h with h;subst h
    rw[mZ]at hx;rw[mY]at hy;rw[FO]at hz
    refine⟨.int k (if c<(if b<a then b else a)then c else(if b<a then b else a)),?_,.bI _ _ (.int _ _)⟩
    simp[resolve,invoke,builtin,hx.bu,hy.bu,hz.bu,run_min_int3]
   ·cases h
  ·cases h
 ·cases h
end
def dd(ol:Nat→Option AO):AV→Option (Bool×List (List AV)×List Nat)
 |.sl xs=>some (true,xs,[])
 |.dq=>some (true,[],[])
 |.an o _=>match ol o with
  |some (.rows p rs)=>some (p,rs,[o])
  |some (.cT rs)=>some (true,rs,[o])
  |_=>none
 |.eN o off len _=>match ol o with
  |some (.rows p rs)=>some (p,(rs.drop off).take len,[o])
  |some (.cT rs)=>some (true,(rs.drop off).take len,[o])
  |_=>none
 |.str l=>some (true,l.map fun b=>[.int .u8 b.toNat],[])
 |_=>none
def cY(P:Program)(kt:TypeId)(k k':AV):Option Bool:=
 match P.underlying kt,k,k' with
 |some (.int _),.int q a,.int q' b=>if q=q' then some (a==b)else none
 |some .string,.str a,.str b=>some (a==b)
 |some .bool,.bool a,.bool b=>some (a==b)
 |some (.struct _),.agg [.int q a,.int r b],.agg [.int q' a',.int r' b']=>if q=q'∧r=r' then some (a==a'&&b==b')else none
 |_,_,_=>none
def nF(P:Program)(kt:TypeId):Bool:=
 match P.underlying kt with
 |some (.struct fs)=>(match fs.toList with
  | [f,g]=>f.name != "_" &&g.name != "_" &&decide (f.offset=0)&&decide (g.offset=1)&&(match P.underlying f.type,P.underlying g.type with|some (.int _),some (.int _)=>true|_,_=>false)&&
   decide ((dy P f.type).map (·.1)=some false)&&decide ((dy P g.type).map (·.1)=some false)&&kJ P 20 kt&&decide (P.cellsOf kt=2)
  |_=>false)
 |_=>false
def dz(P:Program)(kt:TypeId)(k:AV):Bool:=
 match P.underlying kt,k with
 |some (.int _),.int _ _=>true
 |some .string,.str _=>true
 |some .bool,.bool _=>true
 |some (.struct _),.agg [.int _ _,.int _ _]=>nF P kt
 |_,_=>false
def zeroV(P:Program)(t:TypeId):Option AV:=
 match P.info? t with
 |none=>none
 |some i=>match i.zero with
  |some v=>some (lZ v)
  |none=>none
def fQ(P:Program)(kt:TypeId)(k:AV):List (AV×AV)→Nat→Option Nat→Prop
 | [],_,r=>r=none
 |e::es,i,r=>(cY P kt k e.1=some true∧r=some i)∨(cY P kt k e.1=some false∧fQ P kt k es (i+1) r)
def fq(ev:Operand→AV)(o:Option Operand)(d n:Nat):Prop:=
 match o with
 |none=>n=d
 |some x=>∃k i,ev x=.int k i∧0≤i∧i.toNat=n
def dY(P:Program)(t:TypeId):Option Nat:=
 match P.underlying t with
 |some (.slice e)=>match P.info? e with
  |some i=>match i.zero with
   |some z=>if(decide (i.bytes≤131072)&&decide (z.cells.size=i.size))=true then some i.size else none
   |none=>none
  |none=>none
 |_=>none
def iC(P:Program)(t:TypeId):Bool:=
 match P.underlying t with
 |some (.slice _)=>true
 |some .string=>true
 |_=>false
def fV(P:Program)(t:TypeId):Option (List AV):=
 match P.underlying t with
 |some (.slice e)=>ie P e
 |_=>none
def chunk(n:Nat):Nat→List AV→List (List AV)
 |0,_=>[]
 |k+1,cs=>cs.take n::chunk n k (cs.drop n)
def dr(P:Program)(t:TypeId):Option TypeId:=
 match P.underlying t with
 |some (.map k _)=>some k
 |_=>none
def fX(P:Program)(t:TypeId):Option TypeId:=
 match P.underlying t with
 |some (.map _ e)=>some e
 |_=>none
def iT(es:List (AV×AV))(r:Option Nat)(k v:AV):List (AV×AV):=
 match r with
 |some i=>es.modify i fun _=>(k,v)
 |none=>es++[(k,v)]
def gj(l:List UInt8):List (List AV):=l.map fun b=>[.int .u8 b.toNat]
def rD(P:Program)(s d:TypeId):Bool:=
 match P.underlying s,P.underlying d with
 |some .string,some (.slice e)=>match P.underlying e with
  |some (.int .u8)=>true
  |_=>false
 |_,_=>false
inductive dR(P:Program)(ev:Operand→AV)(ol:Nat→Option AO)(id:Nat):Op→AV→List (Nat×Option AO)→List Nat→Prop
 |nB (t:TypeId) (x:Operand) (lo hi:Option Operand) (l:List UInt8) (a b:Nat) (h:ev x=.str l) (ht:P.underlying t=some .string)
  (ha:fq ev lo 0 a) (hb:fq ev hi l.length b) (gr:a≤b) (hbl:b≤l.length):dR P ev ol id (.slice t x lo hi none) (.str ((l.take b).drop a)) [] []
 |sa (t:TypeId) (x:Operand) (lo hi:Option Operand) (xs:List (List AV)) (a b sz:Nat) (h:ev x=.sl xs) (ht:dY P t=some sz) (hl:a=0∨∀r,r∈xs→r.length=sz)
  (ha:fq ev lo 0 a) (hb:fq ev hi xs.length b) (gr:a≤b) (hbl:b≤xs.length):dR P ev ol id (.slice t x lo hi none) (.sl ((xs.take b).drop a)) [] []
 |lu (t:TypeId) (x:Operand) (lo:Option Operand) (h m:Operand) (k k':IntKind) (q:Bool×List (List AV)×List Nat) (sz:Nat) (hs:∀l,ev x≠.str l) (hx:dd ol (ev x)=some q) (ht:dY P t=some sz)
  (ha:fq ev lo 0 0) (hh:ev h=.int k 0) (hm:ev m=.int k' 0):dR P ev ol id (.slice t x lo (some h) (some m)) .dq [] q.2.2
 |nC (t:TypeId) (x:Operand) (lo hi:Option Operand) (o z a b sz:Nat) (y:AO) (rs:List (List AV)) (h:ev x=.an o z) (ho:ol o=some y) (hy:y=.rows true rs∨y=.rows false rs∨y=.cT rs)
  (hr:∀r,r∈rs→r.length=sz) (ht:dY P t=some sz) (ha:fq ev lo 0 a) (hb:fq ev hi rs.length b) (gr:a≤b) (hbl:b≤rs.length):
  dR P ev ol id (.slice t x lo hi none) (.eN o a (b-a) (rs.length-a)) [] [o]
 |nD (t:TypeId) (x:Operand) (lo hi:Option Operand) (o off len room a b sz:Nat) (y:AO) (rs:List (List AV)) (h:ev x=.eN o off len room) (ho:ol o=some y) (hy:y=.rows true rs∨y=.rows false rs∨y=.cT rs)
  (hr:∀r,r∈rs→r.length=sz) (ht:dY P t=some sz) (ha:fq ev lo 0 a) (hb:fq ev hi len b) (gr:a≤b) (hbl:b≤len) (kX:off+room≤rs.length):
  dR P ev ol id (.slice t x lo hi none) (.eN o (off+a) (b-a) (room-a)) [] [o]
 |sQ (t:TypeId) (x:Operand) (hi:Operand) (o z b:Nat) (rs:List (List AV)) (h:ev x=.an o z) (ho:ol o=some (.rows true rs)) (hr:∀r,r∈rs→r.length=z) (ht:dY P t=some z)
  (hb:fq ev (some hi) rs.length b) (hbl:b≤rs.length):dR P ev ol id (.slice t x none (some hi) none) (.an id z) [(id,some (.rows true (rs.take b))),(o,none)] []
 |sk (t:TypeId) (l c:Operand) (k k':IntKind) (n m:Int) (z:List AV) (sz:Nat) (hl:ev l=.int k n) (hc:ev c=.int k' m) (h0:0≤n) (h1:n≤m) (h2:m≤bm)
  (ht:dY P t=some sz) (hz:fV P t=some z):dR P ev ol id (.makeSlice t l c) (.an id sz) [(id,some (.rows true (List.replicate n.toNat z)))] []
 |oc (t:TypeId) (len:Nat) (parts:Array (Nat×Operand)) (z cs:List AV) (sz:Nat) (ht:dY P t=some sz) (hz:fV P t=some z) (hlim:len*sz≤16777216) (il:len≤bm)
  (hcl:cs.length=len*sz) (eg:cs.all jJ=true) (hf:fp ev (fun i=>some (i*sz,sz)) parts.toList (List.replicate len z).flatten=some cs):dR P ev ol id (.buildSlice t len parts) (.an id sz) [(id,some (.rows (cs.all gY) (chunk sz len cs)))] []
 |qC (t tx:TypeId) (s x:Operand) (q:Bool×List (List AV)×List Nat) (sz:Nat) (hs:ev s=.dq) (hx:dd ol (ev x)=some q) (ht:dY P t=some sz) (j4:iC P tx=true)
  (hr:∀r,r∈q.2.1→r.length=sz) (hlim:q.2.1.length≤bm):dR P ev ol id (.call {callee:=.builtin .append,args:=#[s,x],argTypes:=#[t,tx]}) (.an id sz) [(id,some (.rows q.1 q.2.1))] q.2.2
 |qB (t tx:TypeId) (s x:Operand) (q:Bool×List (List AV)×List Nat) (sz o z:Nat) (p:Bool) (rs:List (List AV)) (hs:ev s=.an o z) (hz:z=sz) (ho:ol o=some (.rows p rs)) (hx:dd ol (ev x)=some q)
  (ht:dY P t=some sz) (j4:iC P tx=true) (hr:∀r,r∈q.2.1→r.length=sz) (lT:∀r,r∈rs→r.length=sz) (hlim:rs.length+q.2.1.length≤bm):
  dR P ev ol id (.call {callee:=.builtin .append,args:=#[s,x],argTypes:=#[t,tx]}) (.an id sz) [(id,some (.rows (p&&q.1) (rs++q.2.1))),(o,none)] q.2.2
 |dQ (s d:TypeId) (x:Operand) (l:List UInt8) (hx:ev x=.str l) (ht:rD P s d=true) (hl:l.length≤bm):
  dR P ev ol id (.convert s d x) (.an id 1) [(id,some (.rows true (gj l)))] []
 |toStr (s d:TypeId) (x:Operand) (l:List UInt8) (q:Bool×List (List AV)×List Nat) (hs:∀l,ev x≠.str l) (hx:dd ol (ev x)=some q) (hl:q.2.1=gj l) (ht:rD P d s=true):
  dR P ev ol id (.convert s d x) (.str l) [] q.2.2
 |mkMap (t:TypeId) (h:(dr P t).isSome=true):dR P ev ol id (.makeMap t none) (.aw id) [(id,some (.aw true []))] []
 |lx (t:TypeId) (x:Operand) (k:IntKind) (n:Int) (h:(dr P t).isSome=true) (hx:ev x=.int k n):dR P ev ol id (.makeMap t (some x)) (.aw id) [(id,some (.aw true []))] []
 |ik (op:Op) (t kt:TypeId) (m k x:Operand) (cu:op=.mapUpdate t m k x∨op=.insert t m k x) (o:Nat) (p:Bool) (es:List (AV×AV)) (r:Option Nat) (hm:ev m=.aw o) (ho:ol o=some (.aw p es)) (ht:dr P t=some kt)
  (hk:dz P kt (ev k)=true) (hr:fQ P kt (ev k) es 0 r) (hlim:es.length+1≤bm) (v':AV) (hw:Wk (ev x) v'):dR P ev ol id op .undef [(o,some (.aw (p&&ur v') (iT es r (ev k) v')))] []
 |look (t kt:TypeId) (m k:Operand) (ok:Bool) (o:Nat) (p:Bool) (es:List (AV×AV)) (r:Option Nat) (v:AV) (hm:ev m=.aw o) (ho:ol o=some (.aw p es)) (ht:dr P t=some kt) (hk:dz P kt (ev k)=true)
  (hr:fQ P kt (ev k) es 0 r) (hv:(∃i e,r=some i∧es[i]? =some e∧v=e.2)∨(r=none∧∃vt zv,fX P t=some vt∧zeroV P vt=some zv∧Wk zv v)):
  dR P ev ol id (.lookup t m k ok) (if ok then .bN [v,.bool r.isSome]else v) [] [o]
 |nL (t kt vt:TypeId) (m k:Operand) (ok:Bool) (v:AV) (hm:ev m=.ei (.map none)) (ht:dr P t=some kt) (hk:dz P kt (ev k)=true)
  (jt:fX P t=some vt) (hz:zeroV P vt=some v):dR P ev ol id (.lookup t m k ok) (if ok then .bN [v,.bool false]else v) [] []
def eU(fs:List (AV×List (List AV))):List (AV×AV):=fs.map fun e=>(e.1,AV.undef)
def iS(fs:List (AV×List (List AV)))(r:Option Nat)(k:AV)(rs:List (List AV)):List (AV×List (List AV)):=
 match r with
 |some i=>fs.set i (k,rs)
 |none=>fs++[(k,rs)]
def kE(fs:List (AV×List (List AV)))(r:Option Nat):List (AV×List (List AV)):=
 match r with
 |some i=>fs.eraseIdx i
 |none=>fs
def kF(es:List (AV×AV))(r:Option Nat):List (AV×AV):=
 match r with
 |some i=>es.eraseIdx i
 |none=>es
def IF(d:AV)(rs:List (List AV))(o off len:Nat):Prop:=(∃z,d=.an o z∧off=0∧len=rs.length)∨∃room,d=.eN o off len room∧off+room≤rs.length
def C0(h:Option (Nat×Nat))(r:Option Nat):Prop:=h=none∨∃i q,h=some (i,q)∧r=some i
def qy(P:Program)(s d:TypeId):Bool:=
 Nat.beq s d&&match P.underlying s with
  |some (.slice e)=>(match P.underlying e with|some (.int .u8)=>true|_=>false)
  |_=>false
theorem Rw{P:Program}{s d:TypeId}(h:qy P s d=true):d=s∧∃e,P.underlying s=some (.slice e)∧P.underlying e=some (.int .u8):=by
 unfold qy at h;rw[Y9]at h
 obtain⟨h1,h2⟩:=h
 split at h2
 ·rename_i e he
  split at h2
  all_goals simp_all
 grind
inductive dZ(P:Program)(ev:Operand→AV)(ol:Nat→Option AO)(id:Nat):Op→AV→List (Nat×Option AO)→List Nat→Prop
 |look (t kt:TypeId) (m k:Operand) (ok:Bool) (o z:Nat) (fs:List (AV×List (List AV))) (i:Nat) (e:AV×List (List AV)) (hm:ev m=.aw o) (ho:ol o=some (.bL z fs none)) (ht:dr P t=some kt)
  (hk:dz P kt (ev k)=true) (hr:fQ P kt (ev k) (eU fs) 0 (some i)) (he:fs[i]? =some e):
  dZ P ev ol id (.lookup t m k ok) (if ok then .bN [.an id z,.bool true]else .an id z) [(id,some (.rows true e.2)),(o,some (.bL z fs (some (i,id))))] []
 |se (t kt:TypeId) (m k:Operand) (o z:Nat) (fs:List (AV×List (List AV))) (h:Option (Nat×Nat)) (r:Option Nat) (hm:ev m=.aw o) (ho:ol o=some (.bL z fs h)) (ht:dr P t=some kt)
  (hk:dz P kt (ev k)=true) (hr:fQ P kt (ev k) (eU fs) 0 r) (hz:∃vt zv,fX P t=some vt∧zeroV P vt=some zv):dZ P ev ol id (.lookup t m k true) (.bN [.undef,.bool r.isSome]) [] [o]
 |gB (t kt:TypeId) (m k:Operand) (ok:Bool) (o z:Nat) (fs:List (AV×List (List AV))) (h:Option (Nat×Nat)) (v:AV) (hm:ev m=.aw o) (ho:ol o=some (.bL z fs h)) (ht:dr P t=some kt)
  (hk:dz P kt (ev k)=true) (hr:fQ P kt (ev k) (eU fs) 0 none) (hv:∃vt zv,fX P t=some vt∧zeroV P vt=some zv∧Wk zv v):
  dZ P ev ol id (.lookup t m k ok) (if ok then .bN [v,.bool false]else v) [] [o]
 |eO (op:Op) (t kt:TypeId) (m k x:Operand) (cu:op=.mapUpdate t m k x∨op=.insert t m k x) (o z q:Nat) (fs:List (AV×List (List AV))) (h:Option (Nat×Nat)) (r:Option Nat) (rs:List (List AV))
  (hm:ev m=.aw o) (ho:ol o=some (.bL z fs h)) (ht:dr P t=some kt) (hk:dz P kt (ev k)=true) (hr:fQ P kt (ev k) (eU fs) 0 r) (hh:C0 h r) (hlim:fs.length+1≤bm)
  (hx:ev x=.an q z) (hq:ol q=some (.rows true rs)) (hl:∀row,row∈rs→row.length=z) (hz:0<z) (hne:q≠o):
  dZ P ev ol id op .undef [(o,some (.bL z (iS fs r (ev k) rs) none)),(q,none)] []
 |del (t tk kt:TypeId) (m k:Operand) (o z:Nat) (fs:List (AV×List (List AV))) (h:Option (Nat×Nat)) (r:Option Nat) (hm:ev m=.aw o) (ho:ol o=some (.bL z fs h)) (ht:dr P t=some kt)
  (hk:dz P kt (ev k)=true) (hr:fQ P kt (ev k) (eU fs) 0 r) (hh:C0 h r):
  dZ P ev ol id (.call {callee:=.builtin .delete,args:=#[m,k],argTypes:=#[t,tk]}) (.bN []) [(o,some (.bL z (kE fs r) none))] []
 |copy (t ts:TypeId) (d s:Operand) (o off len:Nat) (p:Bool) (rs:List (List AV)) (q:Bool×List (List AV)×List Nat) (sz:Nat) (ho:ol o=some (.rows p rs)) (hd:IF (ev d) rs o off len) (hs:dd ol (ev s)=some q)
  (ht:dY P t=some sz) (hr:∀r,r∈rs→r.length=sz) (lT:∀r,r∈q.2.1→r.length=sz):
  dZ P ev ol id (.call {callee:=.builtin .copy,args:=#[d,s],argTypes:=#[t,ts]}) (.int .i64 (min len q.2.1.length:Nat))
   [(o,some (.rows (p&&q.1) (rs.take off++(q.2.1.take (min len q.2.1.length)++rs.drop (off+min len q.2.1.length)))))] q.2.2
 |qv (t tk kt:TypeId) (m k:Operand) (o:Nat) (p:Bool) (es:List (AV×AV)) (r:Option Nat) (hm:ev m=.aw o) (ho:ol o=some (.aw p es)) (ht:dr P t=some kt)
  (hk:dz P kt (ev k)=true) (hr:fQ P kt (ev k) es 0 r):
  dZ P ev ol id (.call {callee:=.builtin .delete,args:=#[m,k],argTypes:=#[t,tk]}) (.bN []) [(o,some (.aw p (kF es r)))] []
 |len (x:Operand) (ts:Array TypeId) (args:Array Operand) (t:TypeId) (o z:Nat) (fs:List (AV×List (List AV))) (h:Option (Nat×Nat)) (ha:args[0]? =some x) (mI:ts[0]? =some t) (ht:(dr P t).isSome=true)
  (hx:ev x=.aw o) (ho:ol o=some (.bL z fs h)):dZ P ev ol id (.call {callee:=.builtin .len,args:=args,argTypes:=ts}) (.int .i64 fs.length) [] [o]
 |nG (t t' e:TypeId) (x:Operand) (o z:Nat) (p:Bool) (rs:List (List AV)) (hx:ev x=.an o z) (ho:ol o=some (.rows p rs)) (ht:P.underlying t=some (.slice e)):
  dZ P ev ol id (.binOp .eql t x (.const (.slice none 0 0)) t') (.eh (rs=[])) [] [o]
 |Av (t:TypeId) (x:Operand) (o off len room:Nat) (p:Bool) (rs:List (List AV)) (z:List AV) (sz:Nat) (h:ev x=.eN o off len room) (ho:ol o=some (.rows p rs)) (ht:dY P t=some sz) (hz:fV P t=some z)
  (hr:∀r,r∈rs→r.length=sz) (kX:off+room≤rs.length):
  dZ P ev ol id (.call {callee:=.builtin .clear,args:=#[x],argTypes:=#[t]}) (.bN []) [(o,some (.rows p (rs.take off++(List.replicate len z++rs.drop (off+len)))))] []
 |mk (t:TypeId) (z:Nat) (h:(dr P t).isSome=true):dZ P ev ol id (.makeMap t none) (.aw id) [(id,some (.bL z [] none))] []
 |so (t:TypeId) (len:Nat) (parts:Array (Nat×Operand)) (z cs:List AV) (ht:dY P t=some 1) (hz:fV P t=some z) (hlim:len*1≤16777216) (il:len≤bm) (hpos:0<len)
  (hcl:cs.length=len*1) (eg:cs.all jJ=true) (hfr:cs.all gY=true) (hf:fp ev (fun i=>some (i*1,1)) parts.toList (List.replicate len z).flatten=some cs):
  dZ P ev ol id (.buildSlice t len parts) (.an id 1) [(id,some (.lit (chunk 1 len cs)))] []
 |CT (s d:TypeId) (x:Operand) (o:Nat) (rs:List (List AV)) (hx:ev x=.an o 1) (ho:ol o=some (.lit rs)) (ht:qy P s d=true):
  dZ P ev ol id (.convert s d x) (.an o 1) [(o,some (.rows true rs))] []
 |lK (t:TypeId) (cs:List AV) (k z:Nat) (h:ie P t=some cs) (hk:cs[k]? =some .dq):
  dZ P ev ol id (.alloc t) (.ptr id 0 0) [(id,some (.rows false [setAt cs k [.an (id+1) z]])),(id+1,some (.rows true []))] []
 |sT (t:TypeId) (x:Operand) (cs:List AV) (k z:Nat) (h:kA (ev x)=some cs) (hk:cs[k]? =some .dq):
  dZ P ev ol id (.box t x) (.ptr id 0 0) [(id,some (.rows false [setAt cs k [.an (id+1) z]])),(id+1,some (.rows true []))] []
 |lJ (t:TypeId) (parts:Array (Nat×Operand)) (cs:List AV) (k z:Nat) (h:vP P ev t parts=some (.agg cs)) (hk:cs[k]? =some .dq):
  dZ P ev ol id (.build t parts) (.agg (setAt cs k [.an id z])) [(id,some (.rows true []))] []
def W:Nat:=32
def lk(os:List (Nat×AO))(o:Nat):Option AO:=
 match os with
 | []=>none
 |(k,x)::r=>if o=k then some x else lk r o
structure jG(Ow:Nat→Prop)(S:Nat→Prop)(w:World)(ι:ax)(os:Nat→Option AO):Prop where
 ob:∀o x,os o=some x→ca S w ι o x
 own:∀o x,os o=some x→x.live=true→∀l,ι o=some (some l)→∀b,cj w x l b→Ow b∧¬S b∧b<w.heap.size
 inj:∀o o' x x',os o=some x→os o'=some x'→x.live=true→x'.live=true→
  ∀l l',ι o=some (some l)→ι o'=some (some l')→∀b,cj w x l b→cj w x' l' b→o=o'
def eF(P:Program)(f:Nat):Bool:=
 match P.funcs[f]? with
 |some fn=>!(fn.name== "runtime.NumGoroutine")&&fn.body.isSome&&Nat.blt f FB
 |none=>false
theorem A6{P:Program}{f:Nat}(h:eF P f=true):Nat.blt f FB=true:=by
 unfold eF at h
 grind
theorem Hn{P:Program}{f:Nat}(h:eF P f=true)(args:Array Value)(w:World):(callFunc f args).run P w=.ok (.enter f args) w:=by
 unfold eF at h;split at h
 ·rename_i fn hf
  simp only[Y9,WW,W4]at h
  replace h:=h.1
  have hb:fn.body.isNone=false:=by cases hb:fn.body<;>simp_all
  unfold callFunc;simp only[Y7,run_program,Result.andThen_ok,hf,h.1,hb,Yu,Yc,Sem.run_pure]
 ·cases h
def dx(w0:World)(ι0:ax)(oin:List (Nat×AO))(b:Nat):Prop:=
 w0.heap.size≤b∨∃o x l,lk oin o=some x∧x.live=true∧ι0 o=some (some l)∧cj w0 x l b
def FC(P:Program)(G:db)(f:Nat)(oin:List (Nat×AO))(args:List AV)(rv:AV)(os':List (Nat×AO)):Prop:=
 eF P f=true∧(∀o x,lk os' o=some x→o<W)∧
 ∀(S0:Nat→Prop) (ι0:ax) (w0:World) (vs:Array Value),
  (∀b,S0 b→b<w0.heap.size)→ow G S0 w0→jG (dx w0 ι0 oin) S0 w0 ι0 (lk oin)→(∀o,oin.length≤o→ι0 o=none)→az S0 w0 ι0 args vs.toList→
  Calls P f vs w0 fun e w'=>∃v S' ι',e=.returned v∧Fr (dx w0 ι0 oin) w0 w'∧
   (∀b,S' b→(S0 b∨dx w0 ι0 oin b)∧b<w'.heap.size)∧(∀b,S0 b→S' b)∧ι0.le ι'∧(∀o,W≤o→ι' o=none)∧
   bP S' w' ι' rv v∧jG (dx w0 ι0 oin) S' w' ι' (lk os')
mutual
def cd(σ:Nat→Nat):AV→AV
 |.ptr o r c=>.ptr (σ o) r c
 |.eN o a b c=>.eN (σ o) a b c
 |.an o z=>.an (σ o) z
 |.aw o=>.aw (σ o)
 |.agg cs=>.agg (fi σ cs)
 |.bN cs=>.bN (fi σ cs)
 |.fn f cs=>.fn f (fi σ cs)
 |x=>x
def fi(σ:Nat→Nat):List AV→List AV
 | []=>[]
 |x::r=>cd σ x::fi σ r
end
def cC(σ:Nat→Nat):AO→AO
 |.rows false rs=>.rows false (rs.map (fi σ))
 |.rows true rs=>.rows true rs
 |.cT rs=>.cT rs
 |.bL z fs h=>.bL z fs (h.map fun e=>(e.1,σ e.2))
 |.bK es h=>.bK es (h.map fun e=>(e.1,σ e.2))
 |.lit rs=>.lit rs
 |.aw false es=>.aw false (es.map fun e=>(e.1,cd σ e.2))
 |.aw true es=>.aw true es
mutual
def eS(n:Nat):AV→Bool
 |.ptr o _ _=>decide (o<n)
 |.eN o _ _ _=>decide (o<n)
 |.an o _=>decide (o<n)
 |.aw o=>decide (o<n)
 |.agg cs=>eJ n cs
 |.bN cs=>eJ n cs
 |.fn _ cs=>eJ n cs
 |_=>true
def eJ(n:Nat):List AV→Bool
 | []=>true
 |x::r=>eS n x&&eJ n r
end
def cE(n:Nat):AO→Bool
 |.rows false rs=>rs.all (eJ n)
 |.aw false es=>es.all fun e=>eS n e.2
 |.bL _ _ (some e)=>decide (e.2<n)
 |.bK _ (some e)=>decide (e.2<n)
 |_=>true
mutual
def flat:AV→Bool
 |.int .. |.bool _|.str _|.ei _=>true
 |.agg cs=>mu cs
 |.bN cs=>mu cs
 |_=>false
def mu:List AV→Bool
 | []=>true
 |x::r=>flat x&&mu r
end
def ko{α β:Type}(f:α→Option β):List α→Option (List β)
 | []=>some []
 |x::r=>match f x,ko f r with
  |some y,some s=>some (y::s)
  |_,_=>none
def oX(cl:AV→Option AV):AO→Option (List (List AV))
 |.rows true rs=>some rs
 |.rows false rs=>ko (ko cl) rs
 |.cT rs=>some rs
 |.aw _ _=>none
 |.bL .. =>none
 |.bK .. =>none
 |.lit _=>none
def ft(V:List Nat)(ol:Nat→Option AO):Nat→AV→Option AV
 |0,_=>none
 |n+1,x=>match x with
  |.an o _=>if V.contains o then(match ol o with|some y=>(oX (ft V ol n) y).map .sl|none=>none)else none
  |.eN o off len _=>if V.contains o then(match ol o with|some y=>(oX (ft V ol n) y).map fun rs=>.sl ((rs.drop off).take len)|none=>none)else none
  |.ptr o r c=>if V.contains o then(match ol o with
   |some y=>(match oX (ft V ol n) y with|some rs=>(match rs[r]? with|some row=>some (.rp row c)|none=>none)|none=>none)
   |none=>none)else none
  |.agg cs=>(ko (ft V ol n) cs).map .agg
  |.bN cs=>(ko (ft V ol n) cs).map .bN
  |.fn f cs=>(ko (ft V ol n) cs).map (.fn f)
  |.aw _=>none
  |x=>some x
def frozen(V:List Nat)(ol:Nat→Option AO)(n:Nat):Option (List (Nat×Option AO)):=
 ko (fun o=>match ol o with
  |some y=>(oX (ft V ol n) y).map fun rs=>(o,some (.cT rs))
  |none=>none) V
def oW(id:Nat)(os:List (Nat×AO)):List (Nat×Option AO):=os.map fun e=>(id+e.1,some (cC (id+ ·) e.2))
def bk(V:List Nat)(id:Nat)(j:Nat):Nat:=if j<V.length then V.getD j 0 else id+j
def gm(V:List Nat)(id:Nat)(os':List (Nat×AO)):List (Nat×Option AO):=
 os'.map (fun e=>(bk V id e.1,some (cC (bk V id) e.2)))++V.map fun o=>(o,none)
structure rb(V:List Nat)(id:Nat)(ol:Nat→Option AO)(jF:List AV)(oin:List (Nat×AO))(bD:List AV):Prop where
 ok:(decide V.Nodup&&eJ V.length bD&&oin.all fun e=>cE V.length e.2)=true
 keys:oin.map (·.1)=List.range V.length
 EU:du (V.map ol) (oin.map fun e=>some (cC (bk V id) e.2))
 args:ep jF (fi (bk V id) bD)
def fC(es:List (AV×Gr)):List (AV×AV):=es.map fun e=>(e.1,AV.undef)
def rB:Nat→Gr→List (Nat×AO)
 |_,[]=>[]
 |k,e::r=>(k,e.2.ao)::rB (k+1) r
inductive GStep(P:Program)(ev:Operand→AV)(ol:Nat→Option AO)(id:Nat):Op→AV→List (Nat×Option AO)→List Nat→Prop
 |look (t kt:TypeId) (m k:Operand) (ok:Bool) (o:Nat) (es:List (AV×Gr)) (i:Nat) (e:AV×Gr) (hm:ev m=.aw o) (ho:ol o=some (.bK es none)) (ht:dr P t=some kt)
  (hk:dz P kt (ev k)=true) (hr:fQ P kt (ev k) (fC es) 0 (some i)) (he:es[i]? =some e) (hW:e.2.length≤W):
  GStep P ev ol id (.lookup t m k ok) (if ok then .bN [.ptr id 0 0,.bool true]else .ptr id 0 0) (oW id (rB 0 e.2)++[(o,some (.bK es (some (i,id))))]) []
 |same (t kt:TypeId) (m k:Operand) (ok:Bool) (o q:Nat) (es:List (AV×Gr)) (i:Nat) (hm:ev m=.aw o) (ho:ol o=some (.bK es (some (i,q)))) (ht:dr P t=some kt)
  (hk:dz P kt (ev k)=true) (hr:fQ P kt (ev k) (fC es) 0 (some i)):
  GStep P ev ol id (.lookup t m k ok) (if ok then .bN [.ptr q 0 0,.bool true]else .ptr q 0 0) [] [o]
 |gB (t kt:TypeId) (m k:Operand) (ok:Bool) (o:Nat) (es:List (AV×Gr)) (h:Option (Nat×Nat)) (v:AV) (hm:ev m=.aw o) (ho:ol o=some (.bK es h)) (ht:dr P t=some kt)
  (hk:dz P kt (ev k)=true) (hr:fQ P kt (ev k) (fC es) 0 none) (hv:∃vt zv,fX P t=some vt∧zeroV P vt=some zv∧Wk zv v):
  GStep P ev ol id (.lookup t m k ok) (if ok then .bN [v,.bool false]else v) [] [o]
 |put (op:Op) (t kt:TypeId) (m k x:Operand) (cu:op=.mapUpdate t m k x∨op=.insert t m k x) (o q:Nat) (es:List (AV×Gr)) (hm:ev m=.aw o) (ho:ol o=some (.bK es none)) (ht:dr P t=some kt)
  (hk:dz P kt (ev k)=true) (hr:fQ P kt (ev k) (fC es) 0 none) (hlim:es.length+1≤bm) (hx:ev x=.ptr q 0 0) (g0:Gr):
  GStep P ev ol id op .undef [(o,some (.bK (es++[(ev k,g0)]) (some (es.length,q))))] []
 |mk (t:TypeId) (h:(dr P t).isSome=true):GStep P ev ol id (.makeMap t none) (.aw id) [(id,some (.bK [] none))] []
inductive cA(P:Program)(G:db)(ev:Operand→AV)(ol:Nat→Option AO)(id:Nat):Op→AV→List (Nat×Option AO)→List Nat→Prop
 |pure (op:Op) (v:AV) (h:eB P ev op=some v):cA P G ev ol id op v [] []
 |more (op:Op) (v:AV) (U:List (Nat×Option AO)) (RO:List Nat) (h:dR P ev ol id op v U RO):cA P G ev ol id op v U RO
 |files (op:Op) (v:AV) (U:List (Nat×Option AO)) (RO:List Nat) (h:dZ P ev ol id op v U RO):cA P G ev ol id op v U RO
 |jr (op:Op) (v:AV) (U:List (Nat×Option AO)) (RO:List Nat) (h:GStep P ev ol id op v U RO):cA P G ev ol id op v U RO
 |nil (z:Nat):cA P G ev ol id (.assign (.const (.slice none 0 0))) (.an id z) [(id,some (.rows true []))] []
 |pick (c a b:Operand) (t:Bool) (h:ev c=.bool t):cA P G ev ol id (.pick c a b) (if t then ev a else ev b) [] []
 |alloc (t:TypeId) (cs:List AV) (h:ie P t=some cs):cA P G ev ol id (.alloc t) (.ptr id 0 0) [(id,some (.rows false [cs]))] []
 |box (t:TypeId) (x:Operand) (cs:List AV) (h:kA (ev x)=some cs):cA P G ev ol id (.box t x) (.ptr id 0 0) [(id,some (.rows false [cs]))] []
 |load (t:TypeId) (a:Operand) (o i c:Nat) (p:Bool) (rs:List (List AV)) (row:List AV) (v:AV) (h:ev a=.ptr o i c) (ho:ol o=some (.rows p rs))
  (hr:rs[i]? =some row) (hl:ng P t row c=some v):cA P G ev ol id (.load t a) v [] [o]
 |nN (t:TypeId) (a:Operand) (o i c:Nat) (rs:List (List AV)) (row:List AV) (v:AV) (h:ev a=.ptr o i c) (ho:ol o=some (.cT rs))
  (hr:rs[i]? =some row) (hl:ng P t row c=some v):cA P G ev ol id (.load t a) v [] [o]
 |nM (t:TypeId) (a:Operand) (row:List AV) (c:Nat) (v:AV) (h:ev a=.rp row c) (hl:ng P t row c=some v):cA P G ev ol id (.load t a) v [] []
 |store (t:TypeId) (a x:Operand) (o i c:Nat) (p:Bool) (rs:List (List AV)) (row cs:List AV) (b:Bool) (n:Nat) (h:ev a=.ptr o i c)
  (ho:ol o=some (.rows p rs)) (hr:rs[i]? =some row) (hc:kA (ev x)=some cs) (hk:dy P t=some (b,n)) (hn:cs.length=n)
  (hb:c+n≤row.length):cA P G ev ol id (.store t a x) .undef [(o,some (.rows (p&&cs.all gY) (rs.set i (setAt row c cs))))] []
 |lp (t:TypeId) (a x:Operand) (o i c:Nat) (p:Bool) (rs:List (List AV)) (row:List AV) (b:Bool) (q z:Nat) (xs:List (List AV)) (h:ev a=.ptr o i c)
  (ho:ol o=some (.rows p rs)) (hr:rs[i]? =some row) (hx:ev x=.an q z) (hq:ol q=some (.rows true xs)) (hne:o≠q) (hk:dy P t=some (b,1))
  (hb:c+1≤row.length):cA P G ev ol id (.store t a x) .undef [(o,some (.rows (p&&[AV.sl xs].all gY) (rs.set i (setAt row c [.sl xs])))),(q,some (.cT xs))] []
 |lr (t:TypeId) (a x:Operand) (o i c:Nat) (p:Bool) (rs:List (List AV)) (row:List AV) (b:Bool) (z:Nat) (h:ev a=.ptr o i c)
  (ho:ol o=some (.rows p rs)) (hr:rs[i]? =some row) (hx:ev x=.dq) (hk:dy P t=some (b,1))
  (hb:c+1≤row.length):cA P G ev ol id (.store t a x) .undef [(o,some (.rows (p&&[AV.an id z].all gY) (rs.set i (setAt row c [.an id z])))),(id,some (.rows true []))] []
 |nR (t e:TypeId) (x ix:Operand) (xs:List (List AV)) (k:IntKind) (n:Int) (row:List AV) (b:Bool) (h:ev x=.sl xs) (hi:ev ix=.int k n) (h0:0≤n)
  (hr:xs[n.toNat]? =some row) (ht:P.underlying t=some (.slice e)) (hk:dy P e=some (b,row.length)):cA P G ev ol id (.indexAddr t x ix) (.rp row 0) [] []
 |lA (t e:TypeId) (x ix:Operand) (o z:Nat) (k:IntKind) (n:Int) (y:AO) (rs:List (List AV)) (row:List AV) (b:Bool) (h:ev x=.an o z) (hi:ev ix=.int k n) (h0:0≤n)
  (ho:ol o=some y) (hy:y=.rows true rs∨y=.rows false rs∨y=.cT rs) (hr:rs[n.toNat]? =some row) (ht:P.underlying t=some (.slice e)) (hk:dy P e=some (b,row.length)):
  cA P G ev ol id (.indexAddr t x ix) (.ptr o n.toNat 0) [] [o]
 |lB (t e:TypeId) (x ix:Operand) (o off len room:Nat) (k:IntKind) (n:Int) (y:AO) (rs:List (List AV)) (row:List AV) (b:Bool) (h:ev x=.eN o off len room)
  (hi:ev ix=.int k n) (h0:0≤n) (h1:n.toNat<len)
  (ho:ol o=some y) (hy:y=.rows true rs∨y=.rows false rs∨y=.cT rs) (hr:rs[off+n.toNat]? =some row) (ht:P.underlying t=some (.slice e)) (hk:dy P e=some (b,row.length)):
  cA P G ev ol id (.indexAddr t x ix) (.ptr o (off+n.toNat) 0) [] [o]
 |lC (t e:TypeId) (x ix:Operand) (o r c len sz:Nat) (k:IntKind) (n:Int) (b:Bool) (h:ev x=.ptr o r c) (hi:ev ix=.int k n) (h0:0≤n) (h1:n<len)
  (ht:P.underlying t=some (.array len e)) (hk:dy P e=some (b,sz)):cA P G ev ol id (.indexAddr t x ix) (.ptr o r (c+n.toNat*sz)) [] []
 |jC (t e:TypeId) (x ix:Operand) (row:List AV) (c len sz:Nat) (k:IntKind) (n:Int) (b:Bool) (h:ev x=.rp row c) (hi:ev ix=.int k n) (h0:0≤n) (h1:n<len)
  (ht:P.underlying t=some (.array len e)) (hk:dy P e=some (b,sz)):cA P G ev ol id (.indexAddr t x ix) (.rp row (c+n.toNat*sz)) [] []
 |nA (t:TypeId) (x ix:Operand) (l:List UInt8) (k:IntKind) (n:Int) (c:UInt8) (h:ev x=.str l) (hi:ev ix=.int k n) (h0:0≤n)
  (hr:l[n.toNat]? =some c) (ht:P.underlying t=some .string):cA P G ev ol id (.index t x ix) (.int .u8 c.toNat) [] []
 |od (t e:TypeId) (x ix:Operand) (cs:List AV) (len sz:Nat) (k:IntKind) (n:Int) (b:Bool) (v:AV) (h:ev x=.agg cs) (hi:ev ix=.int k n) (h0:0≤n) (h1:n<len)
  (ht:P.underlying t=some (.array len e)) (hk:dy P e=some (b,sz)) (hl:ng P e cs (n.toNat*sz)=some v):cA P G ev ol id (.index t x ix) v [] []
 |quo (t t':TypeId) (x y:Operand) (k:IntKind) (a b:Int) (hx:ev x=.int k a) (hy:ev y=.int k b) (h0:b≠0):
  cA P G ev ol id (.binOp .quo t x y t') (.int k (k.wrap (a.tdiv b))) [] []
 |rem (t t':TypeId) (x y:Operand) (k:IntKind) (a b:Int) (hx:ev x=.int k a) (hy:ev y=.int k b) (h0:b≠0):
  cA P G ev ol id (.binOp .rem t x y t') (.int k (a.tmod b)) [] []
 |shl (t t':TypeId) (x y:Operand) (k k':IntKind) (a b:Int) (hx:ev x=.int k a) (hy:ev y=.int k' b) (h0:0≤b):
  cA P G ev ol id (.binOp .shl t x y t') (.int k (k.wrap (a*2^(min b.toNat k.bits)))) [] []
 |shr (t t':TypeId) (x y:Operand) (k k':IntKind) (a b:Int) (hx:ev x=.int k a) (hy:ev y=.int k' b) (h0:0≤b):
  cA P G ev ol id (.binOp .shr t x y t') (.int k (a.fdiv (2^(min b.toNat k.bits)))) [] []
 |cat (t t':TypeId) (x y:Operand) (a b:List UInt8) (hx:ev x=.str a) (hy:ev y=.str b) (h:a.length+b.length≤9223372036854775807):
  cA P G ev ol id (.binOp .add t x y t') (.str (a++b)) [] []
 |nY (t t':TypeId) (x y:Operand) (cs ds:List AV) (r:Bool) (hx:ev x=.agg cs) (hy:ev y=.agg ds) (hp:kJ P 20 t=true) (hg:P.eqGuardType P.depth t=false) (hst:∃fs,P.underlying t=some (.struct fs))
  (hc:cs.length=P.cellsOf t) (hd:ds.length=P.cellsOf t) (h:kI P 20 t cs ds 0=some r):cA P G ev ol id (.binOp .eql t x y t') (.bool r) [] []
 |nI (t t':TypeId) (x y:Operand) (cs ds:List AV) (r:Bool) (hx:ev x=.agg cs) (hy:ev y=.agg ds) (hp:kJ P 20 t=true) (hg:P.eqGuardType P.depth t=false) (hst:∃fs,P.underlying t=some (.struct fs))
  (hc:cs.length=P.cellsOf t) (hd:ds.length=P.cellsOf t) (h:kI P 20 t cs ds 0=some r):cA P G ev ol id (.binOp .neq t x y t') (.bool !r) [] []
 |si (t t' e:TypeId) (x:Operand) (xs:List (List AV)) (hx:ev x=.sl xs) (ht:P.underlying t=some (.slice e)):
  cA P G ev ol id (.binOp .eql t x (.const (.slice none 0 0)) t') (.eh (xs=[])) [] []
 |jX (x:Operand) (ts:Array TypeId) (args:Array Operand) (t e:TypeId) (o z:Nat) (y:AO) (rs:List (List AV)) (ha:args[0]? =some x) (mI:ts[0]? =some t) (ht:P.underlying t=some (.slice e))
  (h:ev x=.an o z) (ho:ol o=some y) (hy:y=.rows true rs∨y=.rows false rs∨y=.cT rs):
  cA P G ev ol id (.call {callee:=.builtin .len,args:=args,argTypes:=ts}) (.int .i64 rs.length) [] [o]
 |call (fn:Operand) (args:Array Operand) (ts:Array TypeId) (f:Nat) (cap:List AV) (V:List Nat) (n:Nat) (bD:List AV) (rv:AV)
  (h:ev fn=.fn f cap) (hv:ko (ft V ol n) (args.toList.map ev++cap)=some bD) (hf:FC P G f [] bD rv []) (hfl:flat rv=true):
  cA P G ev ol id (.call {callee:=.value fn,args:=args,argTypes:=ts}) rv [] V
 |mB (fn:Operand) (args:Array Operand) (ts:Array TypeId) (f:Nat) (cap:List AV) (V:List Nat) (n:Nat) (bD:List AV) (rv:AV)
  (os':List (Nat×AO)) (U:List (Nat×Option AO))
  (h:ev fn=.fn f cap) (hv:ko (ft V ol n) (args.toList.map ev++cap)=some bD) (hf:FC P G f [] bD rv os') (hU:frozen V ol n=some U):
  cA P G ev ol id (.call {callee:=.value fn,args:=args,argTypes:=ts}) (cd (id+ ·) rv) (U++oW id os') V
 |k9 (fn:Operand) (args:Array Operand) (ts:Array TypeId) (f:Nat) (cap:List AV) (V:List Nat) (oin:List (Nat×AO)) (bD:List AV) (rv:AV) (os':List (Nat×AO))
  (h:ev fn=.fn f cap) (hh:rb V id ol (args.toList.map ev++cap) oin bD) (hf:FC P G f oin bD rv os'):
  cA P G ev ol id (.call {callee:=.value fn,args:=args,argTypes:=ts}) (cd (bk V id) rv) (gm V id os') V
end Go.Ab
