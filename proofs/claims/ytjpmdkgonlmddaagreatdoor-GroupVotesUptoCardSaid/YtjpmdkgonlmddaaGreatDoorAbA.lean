import GoSem.Claims
import Derived.Calls
import Derived.WalkKit
import Derived.Laws.IdiomCopy
import Derived.MapKept
import Derived.RangeFuncRecord
import Derived.Deep.Upon
import Derived.Deep.MidRow
set_option linter.unusedVariables false
namespace Go.Ab
set_option linter.defProp false
theorem Y1{α β:Type _}(a:α)(f:α→Option β):(some a).bind f=f a:=rfl
def Y2:=@Option.some.injEq
def Y3:=@List.getElem?_eq_getElem
def Y4:=@decide_eq_true
theorem Y5{α:Sort _}{a b:α}:cond true a b=a:=rfl
def Y6:=@run_underlying
def Y7:=@Sem.run_bind
theorem Y8{α:Sort _}{a b:α}:cond false a b=b:=rfl
def Y9:=@Bool.and_eq_true
def Ya:=@List.length_append
def Yb:=@List.length_map
def Yc:=@if_false
def Yd:=@List.map_append
theorem Ye{α:Type _}{a:α}{l:List α}:(a::l).length=l.length+1:=rfl
def Yf:=@List.getElem?_append_right
def Yg:=@Nat.le_refl
def Yh:=@List.mem_cons
def Yi:=@if_true
def Yj:=@Option.map_eq_some_iff
def Yk:=@List.mem_cons_of_mem
def Yl:=@List.mem_cons_self
def Ym:=@decide_eq_false
def Yn:=@List.getElem?_map
theorem Yo{α β:Type _}{a:α}{f:α→β}:(some a).map f=some (f a):=rfl
def Yp:=@List.map_cons
def Yq:=@List.append_assoc
def Yr:=@Nat.mul_le_mul_right
def Ys:=@List.mem_singleton
def Yt:=@List.getElem?_append_left
def Yu:=@Bool.false_eq_true
theorem Yv{α:Type _}{a b:α}:(some a).getD b=a:=rfl
def Yw:=@List.mem_append
def Yx:=@decide_eq_true_eq
def Yy:=@List.length_eq_zero_iff
def Yz:=@IntKind.wrap_i64
def YA:=@List.mem_of_getElem?
theorem YB{α:Type _}:([]:List α).length=0:=rfl
def YC:=@Nat.zero_le
def YD:=@List.length_take
def YE:=@List.append_nil
def YF:=@congrArg
def YG:=@List.all_eq_true
def YH:=@List.length_drop
def YI:=@of_decide_eq_true
theorem YJ{α:Type _}{a:α}{b c:List α}:a::b++c=a::(b++c):=rfl
def YK:=@Array.getElem?_eq_getElem
theorem YL{α:Type _}(a:List α):[]++a=a:=rfl
def YM:=@List.mem_map
def YN:=@List.mem_of_mem_take
def YO:=@Option.some.inj
def YP:=@List.map_map
def YQ:=@Int.le_refl
def YR:=@List.getElem?_drop
def YS:=@Nat.zero_add
def YT:=@Nat.add_mul
def YU:=@Array.getD_eq_getD_getElem?
def YV:=@List.take_of_length_le
def YW:=@Option.isSome_iff_exists
def YX:=@List.map_set
def YY:=@Nat.lt_or_ge
def YZ:=@Nat.le_trans
def W0:=@Nat.min_eq_left
def W4:=@Bool.not_true
def W5:=@Nat.le_of_ble_eq_true
def W6:=@List.getD_eq_getElem?_getD
def W7:=@List.drop_eq_getElem_cons
def W8:=@List.getElem?_take
def W9:=@Nat.not_lt_zero
def Wa:=@World.cell?_setCells_out
def Wb:=@List.getElem_mem
def Wc:=@List.take_add_one
def Wd:=@Int.fdiv_eq_ediv_of_nonneg
def We:=@of_decide_eq_false
def Wf:=@Nat.mod_eq_of_lt
def Wg:=@List.getElem_of_mem
def Wh:=@Array.getElem?_toList
def Wi:=@World.putObj_heap_other
def Wj:=@List.getElem?_of_mem
def Wl:=@List.take_length
def Wm:=@List.mem_of_mem_drop
def Wn:=@Array.getElem?_eq_some_iff
def Wo:=@List.getElem?_eq_some_iff
def Wp:=@List.mem_filter
def Wq:=@List.getElem?_eq_none
def Wr:=@Nat.lt_of_lt_of_le
def Ws:=@List.mem_map_of_mem
def Wt:=@List.map_congr_left
def Wu:=@List.drop_of_length_le
def Wv:=@Prod.mk.injEq
def Ww:=@List.filter_cons
def Wx:=@World.heap_setCells_other
def Wy:=@List.exists_mem_of_ne_nil
def Wz:=@Array.getElem?_setIfInBounds_ne
def WA:=@List.prefix_of_prefix_length_le
def WB:=@Nat.add_assoc
def WC:=@List.take_append_of_le_length
def WD:=@List.eq_nil_of_length_eq_zero
def WE:=@World.cell?_setCells_in
def WG:=@List.append_cancel_left
def WH:=@Nat.le_of_lt
def WJ:=@List.length_replicate
def WK:=@IntKind.wrap_u8
def WL:=@List.mem_append_left
def WM:=@Bool.not_false
def WN:=@Nat.sub_self
def WO:=@List.eq_of_mem_replicate
def WP:=@Nat.le_add_right
def WQ:=@List.not_mem_nil
def WR:=@List.length_pos_iff
def WS:=@eqGuard_at_pointer
def WU:=@List.prefix_append
def WV:=@List.getElem?_set_self
def WW:=@Bool.not_eq_eq_eq_not
def WX:=@World.size_alloc
def WY:=@Array.toList_map
def WZ:=@beq_iff_eq
def V0:=@run_storeCells_cells
def V1:=@List.getElem?_set_ne
def V2:=@Nat.lt_succ_self
def V3:=@IntKind.wrap_u64
def V4:=@beq_self_eq_true
def V5:=@List.take_nil
def V6:=@Array.getElem?_push
def V7:=@Instr.checkKey.eq_2
def V8:=@List.flatMap_append
def V9:=@Result.ok.injEq
def Va:=@List.nodup_cons
def Vb:=@Nat.zero_mul
def Vc:=@Nat.eq_zero_or_pos
def Ve:=@run_sliceBound
def Vf:=@List.drop_zero
def Vg:=@List.drop_drop
def Vh:=@Nat.add_sub_cancel_left
def Vi:=@List.ext_getElem?
def Vj:=@Array.toList_push
def Vk:=@List.nodup_append
def Vl:=@List.flatMap_cons
def Vm:=@World.putObj_heap_same
def Vn:=@Sum.inr.inj
def Vo:=@Option.map_id
def Vp:=@Array.getElem?_modify
def Vq:=@Nat.eq_of_beq_eq_true
def Vr:=@List.map_nil
def bm:Nat:=1073741824
inductive AV where
 |int (k:IntKind) (n:Int)
 |bool (b:Bool)
 |str (s:List UInt8)
 |dq
 |sl (xs:List (List AV))
 |agg (cs:List AV)
 |bN (vs:List AV)
 |rp (row:List AV) (off:Nat)
 |fn (f:Nat) (cap:List AV)
 |ei (v:Value)
 |ptr (o row off:Nat)
 |eN (o off len room:Nat)
 |an (o z:Nat)
 |aw (o:Nat)
 |undef
 |eh (p:Prop)
 deriving Inhabited
structure Loc where
 bd:Nat
 base:Nat
 bo:Nat
 size:Nat
 dO:Nat
abbrev ax:=Nat→Option (Option Loc)
def FB:Nat:=1000000000
def nc(f:Nat)(vs:Array Value):Value:=bif Nat.blt f FB then .func (.func f) #[] vs else .func (.func (f-FB)) vs #[]
theorem Kj(f:Nat)(vs:Array Value):(nc f vs).oneCell'=true:=by
 unfold nc
 cases Nat.blt f FB<;>rfl
theorem vQ{f:Nat}(h:Nat.blt f FB=true)(vs:Array Value):nc f vs=.func (.func f) #[] vs:=by
 unfold nc
 grind
abbrev eY(w:World)(b j:Nat):Option Value:=w.cell? ⟨b,j,none⟩
inductive bR(S:Nat→Prop)(w:World):AV→Value→Prop
 |int (k:IntKind) (n:Int):bR S w (.int k n) (.int k n)
 |bool (b:Bool):bR S w (.bool b) (.bool b)
 |str (s:ByteArray):bR S w (.str s.data.toList) (.string s)
 |dq (a:Option Addr):bR S w .dq (.slice a 0 0)
 |fI:bR S w (.sl []) (.slice none 0 0)
 |sl (xs:List (List AV)) (a:Addr) (cap sz:Nat) (vals:Nat→List Value)
  (hcap:xs.length≤cap) (hlim:xs.length≤bm)
  (hS:xs≠[]→S a.block∧a.spot=none)
  (hlen:∀(i:Nat) r,xs[i]? =some r→r.length=sz∧(vals i).length=sz)
  (hcell:∀(i j:Nat) v,i<xs.length→(vals i)[j]? =some v→eY w a.block (a.off+(i*sz+j))=some v∧v.oneCell'=true)
  (hrep:∀(i j:Nat) r x v,xs[i]? =some r→r[j]? =some x→(vals i)[j]? =some v→bR S w x v):
  bR S w (.sl xs) (.slice (some a) xs.length cap)
 |agg (cs:List AV) (vs:Array Value) (hl:cs.length=vs.size)
  (h:∀(j:Nat) x v,cs[j]? =some x→vs[j]? =some v→bR S w x v):bR S w (.agg cs) (.agg vs)
 |bN (cs:List AV) (vs:Array Value) (hl:cs.length=vs.size)
  (h:∀(j:Nat) x v,cs[j]? =some x→vs[j]? =some v→bR S w x v):bR S w (.bN cs) (.tuple vs)
 |rp (row:List AV) (off bd base:Nat) (vals:List Value) (hS:S bd) (hl:row.length=vals.length)
  (hcell:∀(j:Nat) v,vals[j]? =some v→eY w bd (base+j)=some v∧v.oneCell'=true)
  (h:∀(j:Nat) x v,row[j]? =some x→vals[j]? =some v→bR S w x v):
  bR S w (.rp row off) (.pointer (some ⟨bd,base+off,none⟩))
 |fn (f:Nat) (cap:List AV) (vs:Array Value) (hl:cap.length=vs.size)
  (h:∀(j:Nat) x v,cap[j]? =some x→vs[j]? =some v→bR S w x v):bR S w (.fn f cap) (nc f vs)
 |ei (v:Value) (h:v.oneCell'=true):bR S w (.ei v) v
 |undef (v:Value):bR S w .undef v
 |eh (p:Prop) (b:Bool) (h:b=true→p):bR S w (.eh p) (.bool b)
def fz(S:Nat→Prop)(w w':World):Prop:=∀b:Nat,S b→w'.heap[b]? =w.heap[b]?
theorem lh{w w':World}{b j:Nat}(h:w'.heap[b]? =w.heap[b]?):eY w' b j=eY w b j:=by
 simp only[eY,World.cell?,h]
theorem Bh{w w':World}{b j:Nat}(h:w'.heap[b]? =w.heap[b]?):w'.frozen? ⟨b,j,none⟩=w.frozen? ⟨b,j,none⟩:=by
 simp only[World.frozen?,h]
theorem bR.mono{S S':Nat→Prop}{w w':World}(hs:∀b,S b→S' b)(hw:fz S w w'){x:AV}{v:Value}
 (h:bR S w x v):bR S' w' x v:=by
 induction h with
 |int k n=>exact .int k n
 |bool b=>exact .bool b
 |str s=>exact .str s
 |dq a=>exact .dq a
 |fI=>exact .fI
 |sl xs a cap sz vals hcap hlim hS hlen hcell _ ih=>
  refine .sl xs a cap sz vals hcap hlim (fun hn=>⟨hs _ (hS hn).1,(hS hn).2⟩) hlen (fun i j v hi hv=>?_) (fun i j r x v h1 h2 h3=>ih i j r x v h1 h2 h3)
  have hn:xs≠[]:=by intro e;subst e;simp at hi
  rw[lh (hw _ (hS hn).1)]
  grind
 |agg cs vs hl _ ih=>exact .agg cs vs hl ih
 |bN cs vs hl _ ih=>exact .bN cs vs hl ih
 |rp row off bd base vals hS hl hcell _ ih=>
  refine .rp row off bd base vals (hs _ hS) hl (fun j v hv=>?_) ih
  rw[lh (hw _ hS)]
  grind
 |fn f cap vs hl _ ih=>exact .fn f cap vs hl ih
 |ei v h=>exact .ei v h
 |undef v=>exact .undef v
 |eh p b h=>exact .eh p b h
inductive bP(S:Nat→Prop)(w:World)(ι:ax):AV→Value→Prop
 |bI (x:AV) (v:Value) (h:bR S w x v):bP S w ι x v
 |agg (cs:List AV) (vs:Array Value) (hl:cs.length=vs.size)
  (h:∀(j:Nat) x v,cs[j]? =some x→vs[j]? =some v→bP S w ι x v):bP S w ι (.agg cs) (.agg vs)
 |bN (cs:List AV) (vs:Array Value) (hl:cs.length=vs.size)
  (h:∀(j:Nat) x v,cs[j]? =some x→vs[j]? =some v→bP S w ι x v):bP S w ι (.bN cs) (.tuple vs)
 |fn (f:Nat) (cap:List AV) (vs:Array Value) (hl:cap.length=vs.size)
  (h:∀(j:Nat) x v,cap[j]? =some x→vs[j]? =some v→bP S w ι x v):bP S w ι (.fn f cap) (nc f vs)
 |ptr (o r c:Nat) (l:Loc) (h:ι o=some (some l)):bP S w ι (.ptr o r c) (.pointer (some ⟨l.bd,l.base+(r*l.bo+c),none⟩))
 |eN (o off len room cap:Nat) (a:Addr) (l:Loc) (h:ι o=some (some l)) (h1:len≤room) (h2:room≤cap)
  (h3:l.base+(off+cap)*l.bo≤l.size) (h4:len≤bm) (h5:off+room≤l.dO) (ha:cap≠0→a=⟨l.bd,l.base+off*l.bo,none⟩):
  bP S w ι (.eN o off len room) (.slice (some a) len cap)
 |an (o z cap:Nat) (a:Addr) (l:Loc) (h:ι o=some (some l)) (h2:l.dO≤cap)
  (h3:l.base+cap*l.bo≤l.size) (h4:l.dO≤bm) (hz:l.dO=0→cap≠0→l.bo=z) (ha:cap≠0→a=⟨l.bd,l.base,none⟩):
  bP S w ι (.an o z) (.slice (some a) l.dO cap)
 |fk (o z:Nat) (a:Option Addr) (h:ι o=some none):bP S w ι (.an o z) (.slice a 0 0)
 |iG (o:Nat) (a:Option Addr) (h:ι o=some none):bP S w ι (.eN o 0 0 0) (.slice a 0 0)
 |aw (o:Nat) (l:Loc) (h:ι o=some (some l)):bP S w ι (.aw o) (.map (some l.bd))
def ax.le(ι ι':ax):Prop:=∀o x,ι o=some x→ι' o=some x
theorem bP.mono{S S':Nat→Prop}{w w':World}{ι ι':ax}(hs:∀b,S b→S' b)(hw:fz S w w')(hι:ι.le ι'){x:AV}{v:Value}
 (h:bP S w ι x v):bP S' w' ι' x v:=by
 induction h with
 |bI x v h=>exact .bI x v (h.mono hs hw)
 |agg cs vs hl _ ih=>exact .agg cs vs hl ih
 |bN cs vs hl _ ih=>exact .bN cs vs hl ih
 |fn f cap vs hl _ ih=>exact .fn f cap vs hl ih
 |ptr o r c l h=>exact .ptr o r c l (hι _ _ h)
 |eN o off len room cap a l h h1 h2 h3 h4 h5 ha=>exact .eN o off len room cap a l (hι _ _ h) h1 h2 h3 h4 h5 ha
 |an o z cap a l h h2 h3 h4 hz ha=>exact .an o z cap a l (hι _ _ h) h2 h3 h4 hz ha
 |fk o z a h=>exact .fk o z a (hι _ _ h)
 |iG o a h=>exact .iG o a (hι _ _ h)
 |aw o l h=>exact .aw o l (hι _ _ h)
theorem ax.le_refl(ι:ax):ι.le ι:=fun _ _ h=>h
def jJ:AV→Bool
 |.int .. |.bool _|.str _|.dq|.sl _|.rp .. |.fn .. |.ei _|.ptr .. |.eN .. |.an .. |.aw _=>true
 |.agg _|.bN _|.undef=>false
 |.eh _=>false
theorem bR.cell{S:Nat→Prop}{w:World}{x:AV}{v:Value}(h:bR S w x v)(hc:jJ x=true):v.oneCell'=true:=by
 cases h<;>first|rfl|assumption|exact Kj _ _|(simp[jJ]at hc;done)
theorem bP.cell{S:Nat→Prop}{w:World}{ι:ax}{x:AV}{v:Value}(h:bP S w ι x v)(hc:jJ x=true):v.oneCell'=true:=by
 cases h with
 |bI _ _ h=>exact h.cell hc
 |_=>first|rfl|exact Kj _ _|(simp[jJ]at hc;done)
def kA:AV→Option (List AV)
 |.agg cs=>if cs.all jJ then some cs else none
 |.int k n=>some [.int k n]
 |.bool b=>some [.bool b]
 |.str s=>some [.str s]
 |.dq=>some [.dq]
 |.sl xs=>some [.sl xs]
 |.rp r o=>some [.rp r o]
 |.fn f c=>some [.fn f c]
 |.ei v=>some [.ei v]
 |.ptr o r c=>some [.ptr o r c]
 |.eN o a b c=>some [.eN o a b c]
 |.an o z=>some [.an o z]
 |.aw o=>some [.aw o]
 |.bN _=>none
 |.undef=>none
 |.eh _=>none
def az(S:Nat→Prop)(w:World)(ι:ax)(cs:List AV)(vs:List Value):Prop:=
 cs.length=vs.length∧∀(j:Nat) x v,cs[j]? =some x→vs[j]? =some v→bP S w ι x v
def bO(S:Nat→Prop)(w:World)(cs:List AV)(vs:List Value):Prop:=
 cs.length=vs.length∧∀(j:Nat) x v,cs[j]? =some x→vs[j]? =some v→bR S w x v
theorem bO.rep{S:Nat→Prop}{w:World}{ι:ax}{cs:List AV}{vs:List Value}(h:bO S w cs vs):az S w ι cs vs:=
 ⟨h.1,fun j x v a b=>.bI _ _ (h.2 j x v a b)⟩
theorem az.mono{S S':Nat→Prop}{w w':World}{ι ι':ax}(hs:∀b,S b→S' b)(hw:fz S w w')(hι:ι.le ι'){cs:List AV}{vs:List Value}
 (h:az S w ι cs vs):az S' w' ι' cs vs:=⟨h.1,fun j x v a b=>(h.2 j x v a b).mono hs hw hι⟩
theorem bO.mono{S S':Nat→Prop}{w w':World}(hs:∀b,S b→S' b)(hw:fz S w w'){cs:List AV}{vs:List Value}
 (h:bO S w cs vs):bO S' w' cs vs:=⟨h.1,fun j x v a b=>(h.2 j x v a b).mono hs hw⟩
theorem az.nil{S:Nat→Prop}{w:World}{ι:ax}:az S w ι [] []:=⟨rfl,fun j x v h=>by simp at h⟩
theorem az.cons{S:Nat→Prop}{w:World}{ι:ax}{x:AV}{v:Value}{cs:List AV}{vs:List Value}(h:bP S w ι x v)(hr:az S w ι cs vs):
 az S w ι (x::cs) (v::vs):=by
 refine⟨by simp[hr.1],fun j y u hy hu=>?_⟩
 cases j with
 |zero=>simp_all
 |succ j=>exact hr.2 j y u (by simp_all) (by simp_all)
theorem az.append{S:Nat→Prop}{w:World}{ι:ax}{as bs:List AV}{us vs:List Value}(ha:az S w ι as us)(hb:az S w ι bs vs):
 az S w ι (as++bs) (us++vs):=by
 refine⟨by simp[ha.1,hb.1],fun j x v hx hv=>?_⟩
 by_cases hj:j<as.length
 ·rw[Yt hj]at hx
  rw[Yt (by have:=ha.1;omega)]at hv
  exact ha.2 j x v hx hv
 ·rw[Yf (by omega)]at hx
  rw[Yf (by have:=ha.1;omega)]at hv
  refine hb.2 (j-as.length) x v hx ?_
  rw[ha.1];exact hv
theorem az.take{S:Nat→Prop}{w:World}{ι:ax}{as:List AV}{us:List Value}(n:Nat)(h:az S w ι as us):az S w ι (as.take n) (us.take n):=by
 refine⟨by simp[h.1],fun j x v hx hv=>?_⟩
 rw[W8]at hx hv
 split at hx
 ·rename_i hlt
  simp only[hlt,Yi]at hv;exact h.2 j x v hx hv
 grind
theorem az.drop{S:Nat→Prop}{w:World}{ι:ax}{as:List AV}{us:List Value}(n:Nat)(h:az S w ι as us):az S w ι (as.drop n) (us.drop n):=by
 refine⟨by simp[h.1],fun j x v hx hv=>?_⟩
 rw[YR]at hx hv
 exact h.2 _ x v hx hv
theorem bP.dG{S:Nat→Prop}{w:World}{ι:ax}{cs:List AV}{v:Value}(h:bP S w ι (.agg cs) v):
 ∃vs:Array Value,v=.agg vs∧az S w ι cs vs.toList:=by
 cases h with
 |bI _ _ h=>
  cases h with
  |agg _ vs hl h=>exact⟨vs,rfl,by omega,fun j x v a b=>.bI _ _ (h j x v a (by grind))⟩
 |agg _ vs hl h=>exact⟨vs,rfl,by omega,fun j x v a b=>h j x v a (by grind)⟩
theorem bP.gA{S:Nat→Prop}{w:World}{ι:ax}{cs:List AV}{v:Value}(h:bP S w ι (.bN cs) v):
 ∃vs:Array Value,v=.tuple vs∧az S w ι cs vs.toList:=by
 cases h with
 |bI _ _ h=>
  cases h with
  |bN _ vs hl h=>exact⟨vs,rfl,by omega,fun j x v a b=>.bI _ _ (h j x v a (by grind))⟩
 |bN _ vs hl h=>exact⟨vs,rfl,by omega,fun j x v a b=>h j x v a (by grind)⟩
theorem bP.gC{S:Nat→Prop}{w:World}{ι:ax}{f:Nat}{cs:List AV}{v:Value}(h:bP S w ι (.fn f cs) v):
 ∃vs:Array Value,v=nc f vs∧az S w ι cs vs.toList:=by
 cases h with
 |bI _ _ h=>
  cases h with
  |fn _ _ vs hl h=>exact⟨vs,rfl,by omega,fun j x v a b=>.bI _ _ (h j x v a (by grind))⟩
 |fn _ _ vs hl h=>exact⟨vs,rfl,by omega,fun j x v a b=>h j x v a (by grind)⟩
theorem bP.bu{S:Nat→Prop}{w:World}{ι:ax}{k:IntKind}{n:Int}{v:Value}(h:bP S w ι (.int k n) v):v=.int k n:=by
 cases h with|bI _ _ h=>cases h;rfl
theorem bP.dp{S:Nat→Prop}{w:World}{ι:ax}{b:Bool}{v:Value}(h:bP S w ι (.bool b) v):v=.bool b:=by
 cases h with|bI _ _ h=>cases h;rfl
theorem bP.cx{S:Nat→Prop}{w:World}{ι:ax}{l:List UInt8}{v:Value}(h:bP S w ι (.str l) v):v=.string ⟨l.toArray⟩:=by
 cases h with|bI _ _ h=>cases h;rfl
theorem bP.gG{S:Nat→Prop}{w:World}{ι:ax}{u v:Value}(h:bP S w ι (.ei u) v):v=u:=by
 cases h with|bI _ _ h=>cases h;rfl
theorem bP.cZ{S:Nat→Prop}{w:World}{ι:ax}{o r c:Nat}{v:Value}(h:bP S w ι (.ptr o r c) v):
 ∃l,ι o=some (some l)∧v=.pointer (some ⟨l.bd,l.base+(r*l.bo+c),none⟩):=by
 cases h with
 |bI _ _ h=>cases h
 |ptr _ _ _ l h=>simp_all
theorem bP.qD{S:Nat→Prop}{w:World}{ι:ax}{p:Prop}{v:Value}(h:bP S w ι (.eh p) v):∃b:Bool,v=.bool b∧(b=true→p):=by
 cases h with|bI _ _ h=>cases h with|eh _ b h=>simp_all
theorem bP.cK{S:Nat→Prop}{w:World}{ι:ax}{o:Nat}{v:Value}(h:bP S w ι (.aw o) v):
 ∃l,ι o=some (some l)∧v=.map (some l.bd):=by
 cases h with
 |bI _ _ h=>cases h
 |aw _ l h=>simp_all
theorem bR.jm{S:Nat→Prop}{w:World}(l:List UInt8):bR S w (.str l) (.string ⟨l.toArray⟩):=by
 have:=bR.str (S:=S) (w:=w) ⟨l.toArray⟩
 omega
theorem yf{S:Nat→Prop}{w:World}{ι:ax}{x:AV}{cs:List AV}{v:Value}(hc:kA x=some cs)(h:bP S w ι x v):
 az S w ι cs v.cells.toList∧cs.all jJ=true:=by
 have one:∀y,kA y=some [y]→jJ y=true→y=x→az S w ι cs v.cells.toList∧cs.all jJ=true:=by
  intro y e hy hxy;subst hxy;rw[e]at hc
  injection hc with hc
  subst hc
  refine⟨?_,by simp[hy]⟩
  have hv:=h.cell hy
  have:v.cells.toList=[v]:=by cases v<;>simp[Value.oneCell']at hv<;>simp[Value.cells]
  rw[this];exact az.cons h .nil
 cases x with
 |agg ds=>
  simp only[kA]at hc;split at hc
  ·rename_i eg
   injection hc with hc
   subst hc
   obtain⟨vs,rfl,hr⟩:=h.dG
   exact⟨hr,eg⟩
  grind
 |bN _=>simp[kA]at hc
 |undef=>simp[kA]at hc
 |eh p=>simp[kA]at hc
 |int k n=>exact one _ rfl rfl rfl
 |bool b=>exact one _ rfl rfl rfl
 |str s=>exact one _ rfl rfl rfl
 |dq=>exact one _ rfl rfl rfl
 |sl xs=>exact one _ rfl rfl rfl
 |rp r o=>exact one _ rfl rfl rfl
 |fn f c=>exact one _ rfl rfl rfl
 |ei v=>exact one _ rfl rfl rfl
 |ptr o r c=>exact one _ rfl rfl rfl
 |eN o a b c=>exact one _ rfl rfl rfl
 |an o z=>exact one _ rfl rfl rfl
 |aw o=>exact one _ rfl rfl rfl
end Go.Ab
open Go.MapKept (Stamped)
namespace Go.Ab
inductive GO where
 |rows (p:Bool) (rs:List (List AV))
 |bL (z:Nat) (fs:List (AV×List (List AV)))
 deriving Inhabited
abbrev Gr:=List (List Nat×GO)
inductive AO where
 |rows (p:Bool) (rs:List (List AV))
 |cT (rs:List (List AV))
 |aw (p:Bool) (es:List (AV×AV))
 |bL (z:Nat) (fs:List (AV×List (List AV))) (h:Option (Nat×Nat))
 |lit (rs:List (List AV))
 |bK (es:List (AV×Gr)) (h:Option (Nat×Nat))
 deriving Inhabited
def GO.ao:GO→AO
 |.rows p rs=>.rows p rs
 |.bL z fs=>.bL z fs none
structure FS where
 g:Nat→AV
 os:Nat→Option AO
def oV(w:World)(l:Loc)(n:Nat)(vals:Nat→List Value):Prop:=
 l.base+n*l.bo≤l.size∧(∀i,i<n→(vals i).length=l.bo)∧
  ∀(i j:Nat) v,i<n→(vals i)[j]? =some v→eY w l.bd (l.base+(i*l.bo+j))=some v∧v.oneCell'=true
def jy(p:Bool)(S:Nat→Prop)(w:World)(ι:ax)(rs:List (List AV))(vals:Nat→List Value):Prop:=
 ∀(i:Nat) r,rs[i]? =some r→if p=true then bO S w r (vals i)else az S w ι r (vals i)
def kr(w:World)(l:Loc):Prop:=
 ∀j,(j<l.size→∃v,eY w l.bd j=some v)∧(j<l.size∨l.bo≠1→w.frozen? ⟨l.bd,j,none⟩=false)
def jj(p:Bool)(S:Nat→Prop)(w:World)(ι:ax)(es:List (AV×AV))(xs:List MapEntry):Prop:=
 es.length=xs.length∧∀(i:Nat) e x,es[i]? =some e→xs[i]? =some x→bR S w e.1 x.key∧bP S w ι e.2 x.val∧(p=true→bR S w e.2 x.val)
def fw:Value→Option Nat
 |.slice (some a) _ cap=>if cap=0 then none else some a.block
 |_=>none
def ir(S:Nat→Prop)(w:World)(z:Nat)(rs:List (List AV))(v:Value):Prop:=
 (fw v=none∧rs=[]∧∃a,v=.slice a 0 0)∨
  ∃l:Loc,fw v=some l.bd∧0<l.size∧bP S w (fun _=>some (some l)) (.an 0 z) v∧∃vals,rs.length=l.dO∧kr w l∧oV w l rs.length vals∧jy true S w (fun _=>none) rs vals
def kN(S:Nat→Prop)(w:World)(ι:ax)(z:Nat)(fs:List (AV×List (List AV)))(h:Option (Nat×Nat))(xs:Array MapEntry):Prop:=
 fs.length=xs.size∧
 (∀(i:Nat) e x,fs[i]? =some e→xs[i]? =some x→bR S w e.1 x.key∧(h.map (·.1)≠some i→ir S w z e.2 x.val)∧∀q,h=some (i,q)→bP S w ι (.an q z) x.val)∧
 ∀(i j:Nat) x y b,xs[i]? =some x→xs[j]? =some y→h.map (·.1)≠some i→h.map (·.1)≠some j→fw x.val=some b→fw y.val=some b→i=j
def ny(xs:Array MapEntry)(clock:Nat):Prop:=xs.size≤bm∧Stamped xs clock
def Di(w:World)(l:Loc):Prop:=∃c e,w.heap[l.bd]? =some (.cells c e (0,0))∧l.size=c.size
theorem Di.EV{w:World}{l:Loc}(h:Di w l):kr w l:=by
 obtain⟨c,e,h1,h2⟩:=h
 intro j
 refine⟨fun hj=>⟨c[j]'(by omega),?_⟩,fun _=>?_⟩
 ·simp only[eY,World.cell?,h1]
  simp
 ·simp[World.frozen?,h1]
def vb:Value→Option Nat
 |.pointer (some a)=>some a.block
 |.map (some b)=>some b
 |.slice (some a) _ cap=>if cap=0 then none else some a.block
 |_=>none
def rm(w:World)(v:Value):List Nat→Option Value
 | []=>some v
 |c::q=>match rm w v q with
  |some (.pointer (some a))=>eY w a.block (a.off+c)
  |_=>none
def pat(w:World)(v:Value)(q:List Nat):Option Nat:=(rm w v q).bind vb
def eX(w:World)(c:Nat):GO→Nat→Prop
 |.rows ..,b=>b=c
 |.bL ..,b=>b=c∨∃(xs:Array MapEntry) (clock i:Nat) (e:MapEntry),w.heap[c]? =some (.map xs clock)∧xs[i]? =some e∧fw e.val=some b
def dN(w:World)(gs:Gr)(v:Value)(b:Nat):Prop:=
 ∃p g,(p,g)∈gs∧((∃r q,p=r++q∧pat w v q=some b)∨∃c,pat w v p=some c∧eX w c g b)
def EY:Option (Option Loc)→Option Nat
 |some (some l)=>some l.bd
 |_=>none
def uj(S:Nat→Prop)(w:World)(ι:ax)(o:Nat):GO→Prop
 |.rows p rs=>(ι o=some none∧rs=[])∨∃l vals,ι o=some (some l)∧rs.length=l.dO∧kr w l∧oV w l rs.length vals∧jy p S w ι rs vals
 |.bL z fs=>∃l xs clock,ι o=some (some l)∧w.heap[l.bd]? =some (.map xs clock)∧ny xs clock∧kN S w ι z fs none xs
def GF(gs:Gr):Prop:=∀c q g,(c::q,g)∈gs→∃g',(q,g')∈gs
structure py(S:Nat→Prop)(w:World)(gs:Gr)(v:Value)(ι:ax):Prop where
 root:bP S w ι (.ptr 0 0 0) v
 ob:∀(k:Nat) p g,gs[k]? =some (p,g)→uj S w ι k g∧pat w v p=EY (ι k)
 inj:∀(k k':Nat) p p' g g',gs[k]? =some (p,g)→gs[k']? =some (p',g')→∀l l',ι k=some (some l)→ι k'=some (some l')→∀b,eX w l.bd g b→eX w l'.bd g' b→k=k'
 ways:GF gs
 top:∀k,gs.length≤k→ι k=none
structure rh(S:Nat→Prop)(w:World)(ι:ax)(es:List (AV×Gr))(h:Option (Nat×Nat))(xs:Array MapEntry)(B:Nat):Prop where
 len:es.length=xs.size
 at_:∀(i:Nat) e x,es[i]? =some e→xs[i]? =some x→bR S w e.1 x.key∧(h.map (·.1)≠some i→(∃ιg,py S w e.2 x.val ιg)∧∀b,dN w e.2 x.val b→b≠B)∧∀q,h=some (i,q)→bP S w ι (.ptr q 0 0) x.val
 inj:∀(i j:Nat) e e' x x' b,es[i]? =some e→es[j]? =some e'→xs[i]? =some x→xs[j]? =some x'→h.map (·.1)≠some i→h.map (·.1)≠some j→dN w e.2 x.val b→dN w e'.2 x'.val b→i=j
def ca(S:Nat→Prop)(w:World)(ι:ax)(o:Nat):AO→Prop
 |.rows p rs=>(ι o=some none∧rs=[])∨∃l vals,ι o=some (some l)∧rs.length=l.dO∧kr w l∧oV w l rs.length vals∧jy p S w ι rs vals
 |.cT rs=>(ι o=some none∧rs=[])∨∃l vals,ι o=some (some l)∧rs.length=l.dO∧S l.bd∧oV w l rs.length vals∧jy true S w ι rs vals
 |.aw p es=>∃l xs clock,ι o=some (some l)∧w.heap[l.bd]? =some (.map xs clock)∧jj p S w ι es xs.toList∧xs.size≤bm
 |.bL z fs h=>∃l xs clock,ι o=some (some l)∧w.heap[l.bd]? =some (.map xs clock)∧ny xs clock∧kN S w ι z fs h xs
 |.lit rs=>∃l vals,ι o=some (some l)∧Di w l∧l.bo=1∧0<rs.length∧rs.length=l.dO∧oV w l rs.length vals∧jy true S w ι rs vals
 |.bK es h=>∃l xs clock,ι o=some (some l)∧w.heap[l.bd]? =some (.map xs clock)∧ny xs clock∧rh S w ι es h xs l.bd
def cj(w:World)(x:AO)(l:Loc)(b:Nat):Prop:=b=l.bd∨match x with
 |.bL _ _ h=>∃(xs:Array MapEntry) (clock i:Nat) (e:MapEntry),w.heap[l.bd]? =some (.map xs clock)∧xs[i]? =some e∧h.map (·.1)≠some i∧fw e.val=some b
 |.bK es h=>∃(xs:Array MapEntry) (clock i:Nat) (e:AV×Gr) (x:MapEntry),w.heap[l.bd]? =some (.map xs clock)∧es[i]? =some e∧xs[i]? =some x∧h.map (·.1)≠some i∧dN w e.2 x.val b
 |_=>False
theorem Kr{w w':World}{v:Value}:∀(q:List Nat),(∀r s b,q=r++s→pat w v s=some b→w'.heap[b]? =w.heap[b]?)→rm w' v q=rm w v q
 | [],_=>rfl
 |c::q,h=>by
  have ih:=Kr q (fun r s b e hb=>h (c::r) s b (by grind) hb)
  simp only[rm,ih]
  cases hq:rm w v q with
  |none=>rfl
  |some x=>
   cases x with
   |pointer a=>
    cases a with
    |none=>rfl
    |some a=>exact lh (h [c] q a.block rfl (by simp[pat,hq,vb]))
   |_=>rfl
theorem xN{w w':World}{c:Nat}(h:w'.heap[c]? =w.heap[c]?){g:GO}{b:Nat}:eX w' c g b↔eX w c g b:=by
 cases g with
 |rows p rs=>rfl
 |bL z fs=>simp only[eX,h]
theorem Bl(w:World)(c:Nat)(g:GO):eX w c g c:=by cases g;exact rfl;exact .inl rfl
theorem xG{w w':World}{gs:Gr}{v:Value}(h:∀b,dN w gs v b→w'.heap[b]? =w.heap[b]?){p:List Nat}{g:GO}(hp:(p,g)∈gs){r q:List Nat}(e:p=r++q):pat w' v q=pat w v q:=by
 unfold pat
 rw[Kr q (fun r' s b e' hb=>h b ⟨p,g,hp,.inl ⟨r++r',s,by simp_all,hb⟩⟩)]
theorem Bm{w w':World}{gs:Gr}{v:Value}(h:∀b,dN w gs v b→w'.heap[b]? =w.heap[b]?){b:Nat}:dN w' gs v b↔dN w gs v b:=by
 constructor
 ·rintro⟨p,g,hp,h1⟩
  refine⟨p,g,hp,?_⟩
  rcases h1 with ⟨r,q,e,h1⟩|⟨c,h1,h2⟩
  ·exact .inl ⟨r,q,e,by rw[←xG h hp e];exact h1⟩
  ·rw[xG h hp (r:=[]) rfl]at h1
   exact .inr ⟨c,h1,(xN (h c ⟨p,g,hp,.inl ⟨[],p,rfl,h1⟩⟩)).1 h2⟩
 ·rintro⟨p,g,hp,h1⟩
  refine⟨p,g,hp,?_⟩
  rcases h1 with ⟨r,q,e,h1⟩|⟨c,h1,h2⟩
  ·exact .inl ⟨r,q,e,by rw[xG h hp e];exact h1⟩
  ·exact .inr ⟨c,by rw[xG h hp (r:=[]) rfl];exact h1,(xN (h c ⟨p,g,hp,.inl ⟨[],p,rfl,h1⟩⟩)).2 h2⟩
theorem eP{w w':World}{x:AO}{l:Loc}(h:∀b,cj w x l b→w'.heap[b]? =w.heap[b]?){b:Nat}(hb:cj w' x l b):cj w x l b:=by
 have hl:=h _ (.inl rfl)
 cases x with
 |bK es hh=>
  rcases hb with hb|⟨xs,c,i,e,x,h1,h2,h3,h4,h5⟩
  ·exact .inl hb
  ·rw[hl]at h1
   exact .inr ⟨xs,c,i,e,x,h1,h2,h3,h4,(Bm (fun b hb=>h b (.inr ⟨xs,c,i,e,x,h1,h2,h3,h4,hb⟩))).1 h5⟩
 |_=>
  unfold cj at hb⊢;rw[hl]at hb;exact hb
theorem Ti{w w':World}{x:AO}{l:Loc}(h:∀b,cj w x l b→w'.heap[b]? =w.heap[b]?){b:Nat}(hb:cj w x l b):cj w' x l b:=by
 have hl:=h _ (.inl rfl)
 cases x with
 |bK es hh=>
  rcases hb with hb|⟨xs,c,i,e,x,h1,h2,h3,h4,h5⟩
  ·exact .inl hb
  ·exact .inr ⟨xs,c,i,e,x,by rw[hl];exact h1,h2,h3,h4,(Bm (fun b hb=>h b (.inr ⟨xs,c,i,e,x,h1,h2,h3,h4,hb⟩))).2 h5⟩
 |_=>
  unfold cj at hb⊢;rw[hl];exact hb
def vT:AO→Bool
 |.bL .. =>false
 |.bK .. =>false
 |_=>true
theorem iw{w:World}{x:AO}{l:Loc}{b:Nat}(h:vT x=true)(hb:cj w x l b):b=l.bd:=by
 rcases hb with hb|hb
 ·exact hb
 ·cases x<;>first|grind|(cases h)
theorem ir.mono{S S':Nat→Prop}{w w':World}(hs:∀b,S b→S' b)(hw:fz S w w'){z:Nat}{rs:List (List AV)}{v:Value}
 (hb:∀b,fw v=some b→w'.heap[b]? =w.heap[b]?) (h:ir S w z rs v):ir S' w' z rs v:=by
 rcases h with h|⟨l,h1,h0,h2,vals,h3,h4,h5,h6⟩
 ·exact .inl h
 ·have e:=hb _ h1
  refine .inr ⟨l,h1,h0,h2.mono hs hw (fun _ _ h=>h),vals,h3,fun j=>?_,⟨h5.1,h5.2.1,fun i j v hi hv=>?_⟩,fun i r hr=>?_⟩
  ·rw[lh e,Bh e];exact h4 j
  ·rw[lh e];exact h5.2.2 i j v hi hv
  ·have:=h6 i r hr
   simp only[Yi]at this⊢;exact this.mono hs hw
theorem kN.mono{S S':Nat→Prop}{w w':World}{ι ι':ax}(hs:∀b,S b→S' b)(hw:fz S w w')(hι:ι.le ι'){z:Nat}{fs:List (AV×List (List AV))}{h:Option (Nat×Nat)}{xs:Array MapEntry}
 (hb:∀(i:Nat) e b,xs[i]? =some e→h.map (·.1)≠some i→fw e.val=some b→w'.heap[b]? =w.heap[b]?) (hF:kN S w ι z fs h xs):kN S' w' ι' z fs h xs:=by
 refine⟨hF.1,fun i e x he hx=>?_,hF.2.2⟩
 obtain⟨h1,h2,h3⟩:=hF.2.1 i e x he hx
 exact⟨h1.mono hs hw,fun hn=>(h2 hn).mono hs hw (fun b hv=>hb i x b hx hn hv),fun q hq=>(h3 q hq).mono hs hw hι⟩
theorem jy.zf{p:Bool}{S S':Nat→Prop}{w w':World}{ι ι':ax}(hs:∀b,S b→S' b)(hw:fz S w w')(hι:ι.le ι')
 {rs:List (List AV)} {vals:Nat→List Value} (h:jy p S w ι rs vals):jy p S' w' ι' rs vals:=by
 intro i r hr
 have:=h i r hr
 cases p
 ·simp only[Yu,Yc]at this⊢;exact this.mono hs hw hι
 ·simp only[Yi]at this⊢;exact this.mono hs hw
theorem uj.mono{S S':Nat→Prop}{w w':World}{ι ι':ax}{o:Nat}{g:GO}(hs:∀b,S b→S' b)(hw:fz S w w')(hι:ι.le ι')
 (hb:∀l,ι o=some (some l)→∀b,eX w l.bd g b→w'.heap[b]? =w.heap[b]?) (h:uj S w ι o g):uj S' w' ι' o g:=by
 cases g with
 |rows p rs=>
  rcases h with ⟨h,rfl⟩|⟨l,vals,h1,hc,h2,h3,h4⟩
  ·exact .inl ⟨hι _ _ h,rfl⟩
  ·have e:=hb l h1 _ rfl
   refine .inr ⟨l,vals,hι _ _ h1,hc,fun j=>?_,⟨h3.1,h3.2.1,fun i j v hi hv=>?_⟩,h4.zf hs hw hι⟩
   ·rw[lh e,Bh e];exact h2 j
   ·rw[lh e];exact h3.2.2 i j v hi hv
 |bL z fs=>
  obtain⟨l,xs,clock,h1,h2,h3,h4⟩:=h
  exact⟨l,xs,clock,hι _ _ h1,by rw[hb l h1 _ (.inl rfl)];exact h2,h3,h4.mono hs hw hι (fun i e b he hn hv=>hb l h1 b (.inr ⟨xs,clock,i,e,h2,he,hv⟩))⟩
theorem Hy{S:Nat→Prop}{w:World}{ι:ax}{o:Nat}{g:GO}:uj S w ι o g↔ca S w ι o g.ao:=by cases g<;>exact Iff.rfl
theorem Hd{w:World}{g:GO}{l:Loc}{b:Nat}:eX w l.bd g b↔cj w g.ao l b:=by
 cases g with
 |rows p rs=>exact⟨fun h=>.inl h,fun h=>h.elim id False.elim⟩
 |bL z fs=>
  constructor
  ·rintro(h|⟨xs,c,i,e,h1,h2,h3⟩)
   ·exact .inl h
   ·exact .inr ⟨xs,c,i,e,h1,h2,by simp,h3⟩
  ·rintro(h|⟨xs,c,i,e,h1,h2,_,h3⟩)
   ·exact .inl h
   ·exact .inr ⟨xs,c,i,e,h1,h2,h3⟩
theorem py.bd{S:Nat→Prop}{w:World}{gs:Gr}{v:Value}{ιg:ax}(h:py S w gs v ιg){k:Nat}{p:List Nat}{g:GO}(hk:gs[k]? =some (p,g)){l:Loc}(hl:ιg k=some (some l)){b:Nat}(hb:eX w l.bd g b):dN w gs v b:=
 ⟨p,g,YA hk,.inr ⟨l.bd,by rw[(h.ob k p g hk).2,hl];rfl,hb⟩⟩
theorem GF.IP{gs:Gr}(h:GF gs):∀{p:List Nat} {g:GO},(p,g)∈gs→∀{r q:List Nat},p=r++q→∃g',(q,g')∈gs
 |_,g,hp,[],q,e=>⟨g,by simp_all⟩
 |_,g,hp,c::r,q,e=>by
  subst e
  obtain⟨g',FK⟩:=h c (r++q) g hp
  exact h.IP FK rfl
theorem py.sh{S:Nat→Prop}{w:World}{gs:Gr}{v:Value}{ιg:ax}(h:py S w gs v ιg){b:Nat}(hb:dN w gs v b):∃k p g l,gs[k]? =some (p,g)∧ιg k=some (some l)∧eX w l.bd g b:=by
 have key:∀p g c,(p,g)∈gs→pat w v p=some c→∃k l,gs[k]? =some (p,g)∧ιg k=some (some l)∧l.bd=c:=by
  intro p g c hp hc
  obtain⟨k,hk⟩:=Wj hp
  have h2:=(h.ob k p g hk).2
  rw[hc]at h2
  cases hι:ιg k with
  |none=>rw[hι]at h2;cases h2
  |some y=>
   cases y with
   |none=>rw[hι]at h2;cases h2
   |some l=>rw[hι]at h2;injection h2 with h2;grind
 obtain⟨p,g,hp,h1⟩:=hb
 rcases h1 with ⟨r,q,e,h1⟩|⟨c,h1,h2⟩
 ·obtain⟨g',FK⟩:=h.ways.IP hp e
  obtain⟨k,l,h3,h4,h5⟩:=key q g' b FK h1
  exact⟨k,q,g',l,h3,h4,by rw[h5];exact Bl _ _ _⟩
 grind
theorem py.mono{S S':Nat→Prop}{w w':World}(hs:∀b,S b→S' b)(hw:fz S w w'){gs:Gr}{v:Value}{ιg:ax}
 (hb:∀b,dN w gs v b→w'.heap[b]? =w.heap[b]?) (h:py S w gs v ιg):py S' w' gs v ιg:=by
 refine⟨h.root.mono hs hw (fun _ _ h=>h),fun k p g hk=>⟨?_,?_⟩,fun k k' p p' g g' hk tW l l' hl hl' b b1 b2=>?_,h.ways,h.top⟩
 ·exact(h.ob k p g hk).1.mono hs hw (fun _ _ h=>h) (fun l hl b hf=>hb b (h.bd hk hl hf))
 ·rw[xG hb (YA hk) (r:=[]) rfl];exact(h.ob k p g hk).2
 ·rw[xN (hb _ (h.bd hk hl (Bl _ _ _)))]at b1
  rw[xN (hb _ (h.bd tW hl' (Bl _ _ _)))]at b2;exact h.inj k k' p p' g g' hk tW l l' hl hl' b b1 b2
theorem rh.mono{S S':Nat→Prop}{w w':World}{ι ι':ax}(hs:∀b,S b→S' b)(hw:fz S w w')(hι:ι.le ι'){es:List (AV×Gr)}{h:Option (Nat×Nat)}{xs:Array MapEntry}{B:Nat}
 (hb:∀(i:Nat) e x b,es[i]? =some e→xs[i]? =some x→h.map (·.1)≠some i→dN w e.2 x.val b→w'.heap[b]? =w.heap[b]?) (hF:rh S w ι es h xs B):rh S' w' ι' es h xs B:=by
 have sm:∀(i:Nat) e x,es[i]? =some e→xs[i]? =some x→h.map (·.1)≠some i→∀b,dN w' e.2 x.val b↔dN w e.2 x.val b:=fun i e x h1 h2 h3 b=>Bm (fun b h4=>hb i e x b h1 h2 h3 h4)
 refine⟨hF.len,fun i e x he hx=>?_,fun i j e e' x x' b he mq hx hx' hn sy h1 h2=>?_⟩
 ·obtain⟨h1,h2,h3⟩:=hF.at_ i e x he hx
  refine⟨h1.mono hs hw,fun hn=>?_,fun q hq=>(h3 q hq).mono hs hw hι⟩
  obtain⟨⟨ιg,hg⟩,h4⟩:=h2 hn
  exact⟨⟨ιg,hg.mono hs hw (fun b hf=>hb i e x b he hx hn hf)⟩,fun b hf=>h4 b ((sm i e x he hx hn b).1 hf)⟩
 ·exact hF.inj i j e e' x x' b he mq hx hx' hn sy ((sm i e x he hx hn b).1 h1) ((sm j e' x' mq hx' sy b).1 h2)
def AO.live:AO→Bool
 |.cT _=>false
 |_=>true
inductive Wk:AV→AV→Prop
 |refl (a:AV):Wk a a
 |dq:Wk .dq (.sl [])
 |agg (as bs:List AV) (hl:as.length=bs.length) (h:∀(j:Nat) x y,as[j]? =some x→bs[j]? =some y→Wk x y):Wk (.agg as) (.agg bs)
 |bN (as bs:List AV) (hl:as.length=bs.length) (h:∀(j:Nat) x y,as[j]? =some x→bs[j]? =some y→Wk x y):Wk (.bN as) (.bN bs)
 |sl (xs ys:List (List AV)) (hl:xs.length=ys.length) (hr:∀(i:Nat) r q,xs[i]? =some r→ys[i]? =some q→r.length=q.length)
  (h:∀(i j:Nat) r q x y,xs[i]? =some r→ys[i]? =some q→r[j]? =some x→q[j]? =some y→Wk x y):Wk (.sl xs) (.sl ys)
def ep:List AV→List AV→Prop
 | [],[]=>True
 |a::as,b::bs=>Wk a b∧ep as bs
 |_,_=>False
def lN:List (List AV)→List (List AV)→Prop
 | [],[]=>True
 |a::as,b::bs=>ep a b∧lN as bs
 |_,_=>False
def fT(a b:AO):Prop:=b=a∨(∃p rs eA,a=.rows p rs∧b=.rows p eA∧lN rs eA)∨∃rs eA,a=.cT rs∧b=.cT eA∧lN rs eA
def du:List (Option AO)→List (Option AO)→Prop
 | [],[]=>True
 |some a::as,some b::bs=>fT a b∧du as bs
 |_,_=>False
theorem JV{S:Nat→Prop}{w:World}{v:Value}(h:bR S w .dq v):bR S w (.sl []) v:=by
 cases h with
 |dq a=>
  cases a with
  |none=>exact .fI
  |some a=>exact .sl [] a 0 0 (fun _=>[]) (Yg _) (by simp) (fun h=>absurd rfl h) (fun i r h=>by simp at h) (fun i j v h=>by simp at h) (fun i j r x v h=>by simp at h)
theorem wm{α β:Type}{as:List α}{bs:List β}(h:as.length=bs.length){j:Nat}{y:β}(hy:bs[j]? =some y):∃x,as[j]? =some x:=by
 have:j<bs.length:=(Wo.1 hy).1
 simp_all
theorem Wk.vc{S:Nat→Prop}{w:World}{a b:AV}(h:Wk a b):∀v,bR S w a v→bR S w b v:=by
 induction h with
 |refl a=>simp
 |dq=>exact fun v h=>JV h
 |agg as bs hl _ ih=>
  intro v hv
  cases hv with
  |agg _ vs dJ h2=>
   refine .agg _ _ (by omega) (fun j y u hy hu=>?_)
   grind
 |bN as bs hl _ ih=>
  intro v hv
  cases hv with
  |bN _ vs dJ h2=>
   refine .bN _ _ (by omega) (fun j y u hy hu=>?_)
   grind
 |sl xs ys hl hr _ ih=>
  intro v hv
  cases hv with
  |fI=>
   obtain rfl:ys=[]:=Yy.1 (by simp_all)
   exact .fI
  |sl _ a cap sz vals hcap hlim hS hlen hcell hrep=>
   rw[hl]
   refine .sl ys a cap sz vals (by omega) (by omega) (fun hn=>hS (fun e=>hn (Yy.1 (by simp_all)))) (fun i q hq=>?_) (fun i j v hi hv=>hcell i j v (by omega) hv) (fun i j q y v hq hy hv=>?_)
   ·grind
   ·obtain⟨r,xn⟩:=wm hl hq
    grind
theorem Wk.rep{S:Nat→Prop}{w:World}{ι:ax}{a b:AV}(h:Wk a b):∀v,bP S w ι a v→bP S w ι b v:=by
 induction h with
 |refl a=>simp
 |dq=>intro v h;cases h with|bI _ _ h=>exact .bI _ _ (JV h)
 |agg as bs hl _ ih=>
  intro v hv
  obtain⟨vs,rfl,h1,h2⟩:=hv.dG
  refine .agg _ _ (by simp_all) (fun j y u hy hu=>?_)
  obtain⟨x,hx⟩:=wm hl hy
  grind
 |bN as bs hl _ ih=>
  intro v hv
  obtain⟨vs,rfl,h1,h2⟩:=hv.gA
  refine .bN _ _ (by simp_all) (fun j y u hy hu=>?_)
  obtain⟨x,hx⟩:=wm hl hy
  grind
 |sl xs ys hl hr h _=>
  intro v hv
  cases hv with
  |bI _ _ hv=>exact .bI _ _ ((Wk.sl xs ys hl hr h).vc v hv)
theorem ep.get:∀{as bs:List AV},ep as bs→as.length=bs.length∧∀(j:Nat) x y,as[j]? =some x→bs[j]? =some y→Wk x y
 | [],[],_=>⟨rfl,fun j x y _ h=>by simp at h⟩
 |a::as,b::bs,h=>by
  obtain⟨h1,h2⟩:=ep.get h.2
  refine⟨by simp[h1],fun j x y hx hy=>?_⟩
  cases j with
  |zero=>simp at hx hy;subst hx;subst hy;exact h.1
  |succ j=>grind
 | [],_::_,h=>h.elim
 |_::_,[],h=>h.elim
theorem lN.get:∀{as bs:List (List AV)},lN as bs→as.length=bs.length∧∀(j:Nat) x y,as[j]? =some x→bs[j]? =some y→ep x y
 | [],[],_=>⟨rfl,fun j x y _ h=>by simp at h⟩
 |a::as,b::bs,h=>by
  obtain⟨h1,h2⟩:=lN.get h.2
  refine⟨by simp[h1],fun j x y hx hy=>?_⟩
  cases j with
  |zero=>simp at hx hy;subst hx;subst hy;exact h.1
  |succ j=>grind
 | [],_::_,h=>h.elim
 |_::_,[],h=>h.elim
theorem ep.u5{S:Nat→Prop}{w:World}{ι:ax}{as bs:List AV}{vs:List Value}(h:ep as bs)(ha:az S w ι as vs):az S w ι bs vs:=by
 obtain⟨h1,h2⟩:=h.get
 refine⟨by rw[←h1];exact ha.1,fun j y v hy hv=>?_⟩
 obtain⟨x,hx⟩:=wm h1 hy
 exact(h2 j x y hx hy).rep v (ha.2 j x v hx hv)
theorem ep.tQ{S:Nat→Prop}{w:World}{as bs:List AV}{vs:List Value}(h:ep as bs)(ha:bO S w as vs):bO S w bs vs:=by
 obtain⟨h1,h2⟩:=h.get
 refine⟨by rw[←h1];exact ha.1,fun j y v hy hv=>?_⟩
 obtain⟨x,hx⟩:=wm h1 hy
 exact(h2 j x y hx hy).vc v (ha.2 j x v hx hv)
theorem fT.live{a b:AO}(h:fT a b):b.live=a.live:=by
 rcases h with rfl|⟨p,rs,eA,rfl,rfl,_⟩|⟨rs,eA,rfl,rfl,_⟩<;>rfl
theorem fT.ok{S:Nat→Prop}{w:World}{ι:ax}{o:Nat}{a b:AO}(h:fT a b)(ha:ca S w ι o a):ca S w ι o b:=by
 rcases h with rfl|⟨p,rs,eA,rfl,rfl,h⟩|⟨rs,eA,rfl,rfl,h⟩
 ·exact ha
 ·obtain⟨h1,h2⟩:=h.get
  rcases ha with ⟨q,rfl⟩|⟨l,vals,e1,e2,e3,e4,e5⟩
  ·exact .inl ⟨q,Yy.1 (by simp_all)⟩
  ·refine .inr ⟨l,vals,e1,by omega,e3,by simp_all,fun i r hr=>?_⟩
   obtain⟨x,hx⟩:=wm h1 hr
   have hw:=h2 i x r hx hr
   have:=e5 i x hx
   cases p
   ·simp only[Yu,Yc]at this⊢;exact hw.u5 this
   ·simp only[Yi]at this⊢;exact hw.tQ this
 ·obtain⟨h1,h2⟩:=h.get
  rcases ha with ⟨q,rfl⟩|⟨l,vals,e1,e2,e3,e4,e5⟩
  ·exact .inl ⟨q,Yy.1 (by simp_all)⟩
  ·refine .inr ⟨l,vals,e1,by omega,e3,by simp_all,fun i r hr=>?_⟩
   obtain⟨x,hx⟩:=wm h1 hr
   have hw:=h2 i x r hx hr
   have:=e5 i x hx
   simp only[Yi]at this⊢;exact hw.tQ this
theorem Wk.eq{a b:AV}(h:b=a):Wk a b:=h▸.refl b
theorem Wk.a{as bs:List AV}(h:ep as bs):Wk (.agg as) (.agg bs):=.agg as bs h.get.1 h.get.2
theorem Wk.t{as bs:List AV}(h:ep as bs):Wk (.bN as) (.bN bs):=.bN as bs h.get.1 h.get.2
theorem ep.nil:ep [] []:=trivial
theorem ep.cons{a b:AV}{as bs:List AV}(h:Wk a b)(h':ep as bs):ep (a::as) (b::bs):=⟨h,h'⟩
theorem lN.nil:lN [] []:=trivial
theorem lN.cons{a b:List AV}{as bs:List (List AV)}(h:ep a b)(h':lN as bs):lN (a::as) (b::bs):=⟨h,h'⟩
theorem ep.refl:∀{as:List AV},ep as as
 | []=>trivial
 |a::_=>⟨.refl a,ep.refl⟩
theorem ep.of_eq{as bs:List AV}(h:bs=as):ep as bs:=h▸ep.refl
theorem du.of_eq{α:Type}{f:α→AO}:∀{l:List α} {as:List (Option AO)},l.map (fun e=>some (f e))=as→du as (l.map fun e=>some (f e))
 | [],_,rfl=>trivial
 |_::_,_,rfl=>⟨.inl rfl,du.of_eq rfl⟩
theorem du.get:∀{as bs:List (Option AO)},du as bs→∀(j:Nat) x y,as[j]? =some x→bs[j]? =some (some y)→∃a,x=some a∧fT a y
 | [],[],_,j,x,y,h1,h2=>by simp at h1
 |some a::as,some b::bs,h,j,x,y,h1,h2=>by
  cases j with
  |zero=>simp at h1 h2;subst h1;subst h2;exact⟨a,rfl,h.1⟩
  |succ j=>exact du.get h.2 j x y (by simp_all) (by simp_all)
 | [],_::_,h,_,_,_,_,_=>h.elim
 |none::_,_::_,h,_,_,_,_,_=>by simp[du]at h
 |some _::_,none::_,h,_,_,_,_,_=>by simp[du]at h
 |some _::_,[],h,_,_,_,_,_=>by simp_all
 |none::_,[],h,_,_,_,_,_=>by simp_all
theorem du.nil:du [] []:=trivial
theorem du.cons{a b:AO}{as bs:List (Option AO)}(h:fT a b)(h':du as bs):du (some a::as) (some b::bs):=⟨h,h'⟩
theorem fT.eq{a b:AO}(h:b=a):fT a b:=.inl h
theorem fT.r{p:Bool}{rs eA:List (List AV)}(h:lN rs eA):fT (.rows p rs) (.rows p eA):=.inr (.inl ⟨p,rs,eA,rfl,rfl,h⟩)
theorem jy.mono{p:Bool}{S S':Nat→Prop}{w w':World}{ι ι':ax}(hs:∀b,S b→S' b)(hw:fz S w w')(hι:ι.le ι')
 {rs:List (List AV)} {vals:Nat→List Value} (h:jy p S w ι rs vals):jy p S' w' ι' rs vals:=by
 intro i r hr
 have:=h i r hr
 cases p
 ·simp only[Yu,Yc]at this⊢;exact this.mono hs hw hι
 ·simp only[Yi]at this⊢;exact this.mono hs hw
theorem ca.mono{S S':Nat→Prop}{w w':World}{ι ι':ax}{o:Nat}{x:AO}(hs:∀b,S b→S' b)(hw:fz S w w')(hι:ι.le ι')
 (hb:∀l,ι o=some (some l)→x.live=true→∀b,cj w x l b→w'.heap[b]? =w.heap[b]?) (h:ca S w ι o x):ca S' w' ι' o x:=by
 cases x with
 |rows p rs=>
  rcases h with ⟨h,rfl⟩|⟨l,vals,h1,hc,h2,h3,h4⟩
  ·exact .inl ⟨hι _ _ h,rfl⟩
  ·have e:=hb l h1 rfl _ (.inl rfl)
   refine .inr ⟨l,vals,hι _ _ h1,hc,fun j=>?_,⟨h3.1,h3.2.1,fun i j v hi hv=>?_⟩,h4.mono hs hw hι⟩
   ·rw[lh e,Bh e];exact h2 j
   ·rw[lh e];exact h3.2.2 i j v hi hv
 |cT rs=>
  rcases h with ⟨h,rfl⟩|⟨l,vals,h1,hc,h2,h3,h4⟩
  ·exact .inl ⟨hι _ _ h,rfl⟩
  ·have e:=hw _ h2
   refine .inr ⟨l,vals,hι _ _ h1,hc,hs _ h2,⟨h3.1,h3.2.1,fun i j v hi hv=>?_⟩,h4.mono hs hw hι⟩
   rw[lh e];exact h3.2.2 i j v hi hv
 |aw p es=>
  obtain⟨l,xs,clock,h1,h2,h3,h4⟩:=h
  refine⟨l,xs,clock,hι _ _ h1,by rw[hb l h1 rfl _ (.inl rfl)];exact h2,⟨h3.1,fun i e x a b=>?_⟩,h4⟩
  exact⟨(h3.2 i e x a b).1.mono hs hw,(h3.2 i e x a b).2.1.mono hs hw hι,fun hp=>((h3.2 i e x a b).2.2 hp).mono hs hw⟩
 |bL z fs hh=>
  obtain⟨l,xs,clock,h1,h2,h3,h4⟩:=h
  exact⟨l,xs,clock,hι _ _ h1,by rw[hb l h1 rfl _ (.inl rfl)];exact h2,h3,h4.mono hs hw hι (fun i e b he hn hv=>hb l h1 rfl b (.inr ⟨xs,clock,i,e,h2,he,hn,hv⟩))⟩
 |bK es hh=>
  obtain⟨l,xs,clock,h1,h2,h3,h4⟩:=h
  exact⟨l,xs,clock,hι _ _ h1,by rw[hb l h1 rfl _ (.inl rfl)];exact h2,h3,h4.mono hs hw hι (fun i e x b he hx hn hf=>hb l h1 rfl b (.inr ⟨xs,clock,i,e,x,h2,he,hx,hn,hf⟩))⟩
 |lit rs=>
  obtain⟨l,vals,h1,⟨c,e',h2,h3⟩,h4,h5,h6,h7,h8⟩:=h
  have e:=hb l h1 rfl _ (.inl rfl)
  exact⟨l,vals,hι _ _ h1,⟨c,e',by simp_all,h3⟩,h4,h5,h6,⟨h7.1,h7.2.1,fun i j v hi hv=>by rw[lh e];exact h7.2.2 i j v hi hv⟩,h8.mono hs hw hι⟩
structure Fr(Ow:Nat→Prop)(w0 w:World):Prop where
 os:w.os=w0.os
 output:w.output=w0.output
 size:w0.heap.size≤w.heap.size
 old:∀b,b<w0.heap.size→¬Ow b→w.heap[b]? =w0.heap[b]?
abbrev db:=Nat→Option (List AV)
def nv(S:Nat→Prop)(w:World)(g:Nat)(row:List AV):Prop:=bR S w (.rp row 0) (.pointer (some ⟨g,0,none⟩))∧∃cs t fr,w.heap[g]? =some (.cells cs t fr)∧cs.size=row.length
theorem nv.mono{S S':Nat→Prop}{w w':World}{g:Nat}{row:List AV}(h:nv S w g row)(hs:∀b,S b→S' b)(hw:fz S w w'):nv S' w' g row:=by
 refine⟨h.1.mono hs hw,?_⟩
 have hg:S g:=by
  have:=h.1
  generalize hv:Value.pointer (some ⟨g,0,none⟩)=v at this
  cases this with
  |rp row off bd base vals hS hl hcell hr=>
   simp_all
 obtain⟨cs,t,fr,e,es⟩:=h.2
 exact⟨cs,t,fr,(hw g hg).trans e,es⟩
def ow(G:db)(S:Nat→Prop)(w:World):Prop:=∀g row,G g=some row→nv S w g row
structure Sl where
 lo:Nat
 n:Nat
 no:Bool
structure Cx where
 G:db
 w0:World
 N:Sl
 Ow:Nat→Prop
 S0:Nat→Prop
 m:Nat
 i0:ax
 NV:∀j L,i0 j=some L→j<m
 kv:Nat→Value
 dfs:List Deferred
 qb:List (Nat×Obj)
structure Inv(C:Cx)(S:Nat→Prop)(ι:ax)(un:Nat→Prop)(f:FS)(a:Act)(w:World):Prop where
 tm:∀t,bP S w ι (f.g t) (a.tmps.getD t undef)
 sz:a.tmps.size=C.N.n
 df:a.defers=C.dfs∧(∀t,t<C.N.lo→a.tmps.getD t undef=C.kv t)∧∀q,q∈C.qb→S q.1∧w.heap[q.1]? =some q.2
 ob:∀o x,f.os o=some x→ca S w ι o x
 own:∀o x,f.os o=some x→x.live=true→∀l,ι o=some (some l)→∀b,cj w x l b→C.Ow b∧¬S b∧b<w.heap.size
 inj:∀o o' x x',f.os o=some x→f.os o'=some x'→x.live=true→x'.live=true→
  ∀l l',ι o=some (some l)→ι o'=some (some l')→∀b,cj w x l b→cj w x' l' b→o=o'
 sb:∀b,S b→b<w.heap.size
 sn:∀b,S b→C.S0 b∨C.Ow b
 un:∀o,un o→ι o=none
 fr:Fr C.Ow C.w0 w
 fo:∀b,C.w0.heap.size≤b→C.Ow b
 gv:ow C.G S w
 s0:∀b,C.S0 b→S b
 hj:∀j L,C.i0 j=some L→ι j=some L
def FS.put(f:FS)(dst:Option Nat)(v:AV):FS:=
 match dst with
 |some d=>{f with g:=fun t=>if t=d then v else f.g t}
 |none=>f
def ay(os:Nat→Option AO):List (Nat×Option AO)→Nat→Option AO
 | []=>os
 |(k,x)::r=>fun o=>if o=k then x else ay os r o
def FS.eO(f:FS)(dst:Option Nat)(v:AV)(U:List (Nat×Option AO)):FS:=
 {(f.put dst v)with os:=ay f.os U}
theorem qJ(w:World)(o:Obj)(i:Nat)(h:i<w.heap.size):(w.alloc o).heap[i]? =w.heap[i]? :=by
 simp only[World.alloc,V6]
 grind
section
variable {C:Cx}
theorem Inv.put{S:Nat→Prop}{ι:ax}{un:Nat→Prop}{f:FS}{a:Act}{w:World}(h:Inv C S ι un f a w){dst:Option Nat}
 {v:AV} {v':Value} (hv:bP S w ι v v') (hd:∀d,dst=some d→C.N.lo≤d∧d<C.N.n):Inv C S ι un (f.put dst v) (a.put dst v') w:=by
 cases dst with
 |none=>exact h
 |some d=>
  have hd:=hd d rfl
  refine⟨fun t=>?_,?_,⟨h.df.1,fun t ht=>?_,h.df.2.2⟩,h.ob,h.own,h.inj,h.sb,h.sn,h.un,h.fr,h.fo,h.gv,h.s0,h.hj⟩
  ·by_cases ht:t=d
   ·subst ht
    have e:(a.tmps.setIfInBounds t v').getD t undef=v':=by
     simp only[YU]
     rw[Array.getElem?_setIfInBounds_self_of_lt (by rw[h.sz];exact hd.2)]
     rfl
    simp only[FS.put,Yi,Act.put]
    grind
   ·simp only[FS.put,Act.put,if_neg ht]
    have e:(a.tmps.setIfInBounds d v').getD t undef=a.tmps.getD t undef:=by
     simp only[YU]
     rw[Wz (fun e=>ht e.symm)]
    rw[e];exact h.tm t
  ·simp[Act.put,h.sz]
  ·have:=h.df.2.1 t ht
   simp only[Act.put,YU]at this⊢
   grind
theorem Inv.hP{S S':Nat→Prop}{ι ι':ax}{un ri:Nat→Prop}{f:FS}{a:Act}{w w':World}{os':Nat→Option AO}
 (h:Inv C S ι un f a w) (hs:∀b,S b→S' b) (hw:fz S w w') (hι:ι.le ι')
 (ob:∀o x,os' o=some x→ca S' w' ι' o x)
 (own:∀o x,os' o=some x→x.live=true→∀l,ι' o=some (some l)→∀b,cj w' x l b→C.Ow b∧¬S' b∧b<w'.heap.size)
 (inj:∀o o' x x',os' o=some x→os' o'=some x'→x.live=true→x'.live=true→
  ∀l l',ι' o=some (some l)→ι' o'=some (some l')→∀b,cj w' x l b→cj w' x' l' b→o=o')
 (sb:∀b,S' b→b<w'.heap.size) (sn:∀b,S' b→C.S0 b∨C.Ow b) (rq:∀o,ri o→ι' o=none) (fr:Fr C.Ow C.w0 w'):
 Inv C S' ι' ri {f with os:=os'} a w':=
 ⟨fun t=>(h.tm t).mono hs hw hι,h.sz,⟨h.df.1,h.df.2.1,fun q hq=>⟨hs _ (h.df.2.2 q hq).1,(hw _ (h.df.2.2 q hq).1).trans (h.df.2.2 q hq).2⟩⟩,ob,own,inj,sb,sn,rq,fr,h.fo,fun g row hg=>(h.gv g row hg).mono hs hw,fun b hb=>hs b (h.s0 b hb),fun j L e=>hι _ _ (h.hj j L e)⟩
theorem Inv.less{S:Nat→Prop}{ι:ax}{un ri:Nat→Prop}{f:FS}{a:Act}{w:World}(h:Inv C S ι un f a w)(hu:∀o,ri o→un o):
 Inv C S ι ri f a w:=
 ⟨h.tm,h.sz,h.df,h.ob,h.own,h.inj,h.sb,h.sn,fun o ho=>h.un o (hu o ho),h.fr,h.fo,h.gv,h.s0,h.hj⟩
theorem Inv.drew{S:Nat→Prop}{ι:ax}{un:Nat→Prop}{f:FS}{a:Act}{w:World}(h:Inv C S ι un f a w):
 Inv C S ι un f a w.drew:=by
 have hw:fz S w w.drew:=fun _ _=>rfl
 refine⟨fun t=>(h.tm t).mono (fun _ x=>x) hw (ax.le_refl _),h.sz,h.df,fun o x hx=>(h.ob o x hx).mono (fun _ x=>x) hw (ax.le_refl _) (fun _ _ _ _ _=>rfl),
  fun o x hx hl l e b hb=>h.own o x hx hl l e b (eP (w:=w) (w':=w.drew) (fun _ _=>rfl) hb),fun o o' x x' hx hx' hl hl' l l' e e' b hb mJ=>h.inj o o' x x' hx hx' hl hl' l l' e e' b (eP (w:=w) (w':=w.drew) (fun _ _=>rfl) hb) (eP (w:=w) (w':=w.drew) (fun _ _=>rfl) mJ),h.sb,h.sn,h.un,⟨h.fr.os,h.fr.output,h.fr.size,h.fr.old⟩,h.fo,fun g row hg=>(h.gv g row hg).mono (fun _ x=>x) hw,h.s0,h.hj⟩
theorem Inv.alloc{S:Nat→Prop}{ι:ax}{un:Nat→Prop}{f:FS}{a:Act}{w:World}(h:Inv C S ι un f a w)
 {id:Nat} (hid:un id) (bd:Obj) (l:Loc) (hl:l.bd=w.heap.size) (x:AO) (_hx:x.live=true) (sL:∀b,cj (w.alloc bd) x l b→b=l.bd)
 (hok:∀ι':ax,ι.le ι'→ι' id=some (some l)→ca S (w.alloc bd) ι' id x):
 ∃ι',ι.le ι'∧ι' id=some (some l)∧Inv C S ι' (fun o=>un o∧o≠id) {f with os:=ay f.os [(id,some x)]} a (w.alloc bd):=by
 have fD:=h.un id hid
 refine⟨fun o=>if o=id then some (some l)else ι o,?_,by simp,?_⟩
 ·intro o y hy
  grind
 ·have hι:ι.le (fun o=>if o=id then some (some l)else ι o):=by
   intro o y hy
   by_cases e:o=id
   ·simp_all
   ·grind
  have hw:∀b,b<w.heap.size→(w.alloc bd).heap[b]? =w.heap[b]? :=fun b hb=>qJ w bd b hb
  have hlt:∀o x,f.os o=some x→o≠id:=by
   intro o x hx e;subst e
   have:=h.ob o x hx
   cases x with
   |rows p rs=>rcases this with ⟨q,_⟩|⟨l,vals,q,_⟩<;>(simp_all)
   |cT rs=>rcases this with ⟨q,_⟩|⟨l,vals,q,_⟩<;>(simp_all)
   |aw p es=>obtain⟨l,xs,c,q,_⟩:=this;simp_all
   |bL z fs hh=>obtain⟨l,xs,c,q,_⟩:=this;simp_all
   |bK es hh=>obtain⟨l,xs,c,q,_⟩:=this;simp_all
   |lit rs=>obtain⟨l,vals,q,_⟩:=this;simp_all
  refine h.hP (fun _ x=>x) (fun b hb=>hw b (h.sb b hb)) hι ?_ ?_ ?_ (fun b hb=>?_) h.sn (fun o ho=>?_) ?_
  ·intro o y hy
   simp only[ay]at hy
   by_cases e:o=id
   ·simp_all
   ·simp only[e,Yc]at hy
    refine(h.ob o y hy).mono (fun _ x=>x) (fun b hb=>hw b (h.sb b hb)) hι (fun l' hl' hy' b hb=>hw _ (h.own o y hy hy' l' hl' b hb).2.2)
  ·intro o y hy hly l' hl' b hb
   simp only[ay]at hy
   by_cases e:o=id
   ·subst e
    simp only[Yi,Y2]at hl';subst hl';simp only[Yi,Y2]at hy;subst hy
    obtain rfl:b=w.heap.size:=(sL _ hb).trans hl
    refine⟨?_,fun hS=>?_,by simp⟩
    ·exact h.fo _ h.fr.size
    ·have:=h.sb _ hS;omega
   ·simp only[e,Yc]at hy hl'
    have:=h.own o y hy hly l' hl' b (eP (fun b hb=>hw b (h.own o y hy hly l' hl' b hb).2.2) hb)
    grind
  ·intro o o' y y' hy hy' hl1 dJ l1 l2 e1 e2 b hb hb2
   simp only[ay]at hy hy'
   by_cases e:o=id<;>by_cases e':o'=id
   ·rw[e,e']
   ·subst e
    simp only[Yi,Y2]at e1;simp only[e',Yc]at hy' e2
    have:=(h.own o' y' hy' dJ l2 e2 b (eP (fun b hb=>hw b (h.own o' y' hy' dJ l2 e2 b hb).2.2) hb2)).2.2
    grind
   ·subst e'
    simp only[Yi,Y2]at e2;simp only[e,Yc]at hy e1
    have:=(h.own o y hy hl1 l1 e1 b (eP (fun b hb=>hw b (h.own o y hy hl1 l1 e1 b hb).2.2) hb)).2.2
    grind
   ·simp only[e,e',Yc]at hy hy' e1 e2
    exact h.inj o o' y y' hy hy' hl1 dJ l1 l2 e1 e2 b (eP (fun b hb=>hw b (h.own o y hy hl1 l1 e1 b hb).2.2) hb) (eP (fun b hb=>hw b (h.own o' y' hy' dJ l2 e2 b hb).2.2) hb2)
  ·have:=h.sb b hb;grind
  ·simp only[ho.2,Yc];exact h.un o ho.1
  ·exact⟨h.fr.os,h.fr.output,by simp only[WX];have:=h.fr.size;omega,fun b hb hn=>by
    rw[hw b (by have:=h.fr.size;omega)];exact h.fr.old b hb hn⟩
end
def jb(S:Nat→Prop)(w w':World):Prop:=∀b,S b→∀j,eY w' b j=eY w b j
theorem bR.dM{S:Nat→Prop}{w w':World}(hw:jb S w w'){x:AV}{v:Value}
 (h:bR S w x v):bR S w' x v:=by
 induction h with
 |int k n=>exact .int k n
 |bool b=>exact .bool b
 |str s=>exact .str s
 |dq a=>exact .dq a
 |fI=>exact .fI
 |sl xs a cap sz vals hcap hlim hS hlen hcell _ ih=>
  refine .sl xs a cap sz vals hcap hlim hS hlen (fun i j v hi hv=>?_) (fun i j r x v h1 h2 h3=>ih i j r x v h1 h2 h3)
  have hn:xs≠[]:=by intro e;subst e;simp at hi
  rw[hw _ (hS hn).1]
  grind
 |agg cs vs hl _ ih=>exact .agg cs vs hl ih
 |bN cs vs hl _ ih=>exact .bN cs vs hl ih
 |rp row off bd base vals hS hl hcell _ ih=>
  refine .rp row off bd base vals hS hl (fun j v hv=>?_) ih
  rw[hw _ hS]
  grind
 |fn f cap vs hl _ ih=>exact .fn f cap vs hl ih
 |ei v h=>exact .ei v h
 |undef v=>exact .undef v
 |eh p b h=>exact .eh p b h
theorem bP.dM{S:Nat→Prop}{w w':World}{ι:ax}(hw:jb S w w'){x:AV}{v:Value}(h:bP S w ι x v):bP S w' ι x v:=by
 induction h with
 |bI x v h=>exact .bI x v (h.dM hw)
 |agg cs vs hl _ ih=>exact .agg cs vs hl ih
 |bN cs vs hl _ ih=>exact .bN cs vs hl ih
 |fn f cap vs hl _ ih=>exact .fn f cap vs hl ih
 |ptr o r c l h=>exact .ptr o r c l h
 |eN o off len room cap a l h h1 h2 h3 h4 h5 ha=>exact .eN o off len room cap a l h h1 h2 h3 h4 h5 ha
 |an o z cap a l h h2 h3 h4 hz ha=>exact .an o z cap a l h h2 h3 h4 hz ha
 |fk o z a h=>exact .fk o z a h
 |iG o a h=>exact .iG o a h
 |aw o l h=>exact .aw o l h
theorem jy.dM{p:Bool}{S:Nat→Prop}{w w':World}{ι:ax}(hw:jb S w w'){rs:List (List AV)}{vals:Nat→List Value}(h:jy p S w ι rs vals):
 jy p S w' ι rs vals:=by
 intro i r hr
 have:=h i r hr
 cases p
 ·simp only[Yu,Yc]at this⊢;exact⟨this.1,fun j x v a b=>(this.2 j x v a b).dM hw⟩
 ·simp only[Yi]at this⊢;exact⟨this.1,fun j x v a b=>(this.2 j x v a b).dM hw⟩
def IX:AO→Bool
 |.bK .. =>true
 |_=>false
theorem ca.pR{S:Nat→Prop}{w w':World}{ι:ax}{o:Nat}{x:AO}(hx:IX x=false)(hw:jb S w w')
 (hb:∀l,ι o=some (some l)→x.live=true→∀b,cj w x l b→w'.heap[b]? =w.heap[b]?) (h:ca S w ι o x):ca S w' ι o x:=by
 cases x with
 |rows p rs=>
  rcases h with ⟨h,rfl⟩|⟨l,vals,h1,hc,h2,h3,h4⟩
  ·exact .inl ⟨h,rfl⟩
  ·have e:=hb l h1 rfl _ (.inl rfl)
   refine .inr ⟨l,vals,h1,hc,fun j=>?_,⟨h3.1,h3.2.1,fun i j v hi hv=>?_⟩,h4.dM hw⟩
   ·rw[lh e,Bh e];exact h2 j
   ·rw[lh e];exact h3.2.2 i j v hi hv
 |cT rs=>
  rcases h with ⟨h,rfl⟩|⟨l,vals,h1,hc,h2,h3,h4⟩
  ·exact .inl ⟨h,rfl⟩
  ·refine .inr ⟨l,vals,h1,hc,h2,⟨h3.1,h3.2.1,fun i j v hi hv=>?_⟩,h4.dM hw⟩
   rw[hw _ h2];exact h3.2.2 i j v hi hv
 |aw p es=>
  obtain⟨l,xs,clock,h1,h2,h3,h4⟩:=h
  refine⟨l,xs,clock,h1,by rw[hb l h1 rfl _ (.inl rfl)];exact h2,⟨h3.1,fun i e x a b=>?_⟩,h4⟩
  exact⟨(h3.2 i e x a b).1.dM hw,(h3.2 i e x a b).2.1.dM hw,fun hp=>((h3.2 i e x a b).2.2 hp).dM hw⟩
 |lit rs=>
  obtain⟨l,vals,h1,⟨c,e',h2,h3⟩,h4,h5,h6,h7,h8⟩:=h
  have e:=hb l h1 rfl _ (.inl rfl)
  exact⟨l,vals,h1,⟨c,e',by simp_all,h3⟩,h4,h5,h6,⟨h7.1,h7.2.1,fun i j v hi hv=>by rw[lh e];exact h7.2.2 i j v hi hv⟩,h8.dM hw⟩
 |bK es hh=>cases hx
 |bL z fs hh=>
  obtain⟨l,xs,clock,h1,h2,h3,h4⟩:=h
  refine⟨l,xs,clock,h1,by rw[hb l h1 rfl _ (.inl rfl)];exact h2,h3,h4.1,fun i e x he hx=>?_,h4.2.2⟩
  obtain⟨g1,g2,g3⟩:=h4.2.1 i e x he hx
  refine⟨g1.dM hw,fun hn=>?_,fun q hq=>(g3 q hq).dM hw⟩
  rcases g2 hn with h|⟨l2,k1,k0,k2,vals,k3,k4,k5,k6⟩
  ·exact .inl h
  ·have e:=hb l h1 rfl _ (.inr ⟨xs,clock,i,x,h2,hx,hn,k1⟩)
   refine .inr ⟨l2,k1,k0,k2.dM hw,vals,k3,fun j=>?_,⟨k5.1,k5.2.1,fun i j v hi hv=>?_⟩,fun i r hr=>?_⟩
   ·rw[lh e,Bh e];exact k4 j
   ·rw[lh e];exact k5.2.2 i j v hi hv
   ·have:=k6 i r hr
    simp only[Yi]at this⊢;exact⟨this.1,fun j x v a b=>(this.2 j x v a b).dM hw⟩
theorem uj.dM{S:Nat→Prop}{w w':World}{ι:ax}{o:Nat}{g:GO}(hw:jb S w w')
 (hb:∀l,ι o=some (some l)→∀b,eX w l.bd g b→w'.heap[b]? =w.heap[b]?) (h:uj S w ι o g):uj S w' ι o g:=
 Hy.2 ((Hy.1 h).pR (by cases g<;>rfl) hw (fun l hl _ b hf=>hb l hl b (Hd.2 hf)))
theorem py.dM{S:Nat→Prop}{w w':World}(hw:jb S w w'){gs:Gr}{v:Value}{ιg:ax}
 (hb:∀b,dN w gs v b→w'.heap[b]? =w.heap[b]?) (h:py S w gs v ιg):py S w' gs v ιg:=by
 refine⟨h.root.dM hw,fun k p g hk=>⟨?_,?_⟩,fun k k' p p' g g' hk tW l l' hl hl' b b1 b2=>?_,h.ways,h.top⟩
 ·exact(h.ob k p g hk).1.dM hw (fun l hl b hf=>hb b (h.bd hk hl hf))
 ·rw[xG hb (YA hk) (r:=[]) rfl];exact(h.ob k p g hk).2
 ·rw[xN (hb _ (h.bd hk hl (Bl _ _ _)))]at b1
  rw[xN (hb _ (h.bd tW hl' (Bl _ _ _)))]at b2;exact h.inj k k' p p' g g' hk tW l l' hl hl' b b1 b2
theorem ca.dM{S:Nat→Prop}{w w':World}{ι:ax}{o:Nat}{x:AO}(hw:jb S w w')
 (hb:∀l,ι o=some (some l)→x.live=true→∀b,cj w x l b→w'.heap[b]? =w.heap[b]?) (h:ca S w ι o x):ca S w' ι o x:=by
 cases hx:IX x with
 |false=>exact h.pR hx hw hb
 |true=>
  cases x with
  |bK es hh=>
   obtain⟨l,xs,clock,h1,h2,h3,hF⟩:=h
   have hbb:∀(i:Nat) e x b,es[i]? =some e→xs[i]? =some x→hh.map (·.1)≠some i→dN w e.2 x.val b→w'.heap[b]? =w.heap[b]? :=fun i e x b he hx hn hf=>hb l h1 rfl b (.inr ⟨xs,clock,i,e,x,h2,he,hx,hn,hf⟩)
   have sm:∀(i:Nat) e x,es[i]? =some e→xs[i]? =some x→hh.map (·.1)≠some i→∀b,dN w' e.2 x.val b↔dN w e.2 x.val b:=fun i e x h1 h2 h3 b=>Bm (fun b h4=>hbb i e x b h1 h2 h3 h4)
   refine⟨l,xs,clock,h1,by rw[hb l h1 rfl _ (.inl rfl)];exact h2,h3,hF.len,fun i e x he hx=>?_,fun i j e e' x x' b he mq hx hx' hn sy h1 h2=>?_⟩
   ·obtain⟨h1,h2,h3⟩:=hF.at_ i e x he hx
    refine⟨h1.dM hw,fun hn=>?_,fun q hq=>(h3 q hq).dM hw⟩
    obtain⟨⟨ιg,hg⟩,h4⟩:=h2 hn
    exact⟨⟨ιg,hg.dM hw (fun b hf=>hbb i e x b he hx hn hf)⟩,fun b hf=>h4 b ((sm i e x he hx hn b).1 hf)⟩
   ·exact hF.inj i j e e' x x' b he mq hx hx' hn sy ((sm i e x he hx hn b).1 h1) ((sm j e' x' mq hx' sy b).1 h2)
  |_=>cases hx
def vU:Obj→Bool
 |.deferred _=>true
 |.loop _=>true
 |_=>false
theorem LD{w:World}{b j:Nat}{o:Obj}(h:w.heap[b]? =some o)(ho:vU o=true):eY w b j=none:=by
 simp only[eY,World.cell?,h]
 cases o<;>first|rfl|(simp[vU]at ho)
theorem TD{S:Nat→Prop}{w:World}{D:Nat}{o o':Obj}(h:w.heap[D]? =some o)(ho:vU o=true)(ru:vU o'=true):jb S w (w.putObj D o'):=by
 intro b _ j
 by_cases e:b=D
 ·subst e
  rw[LD h ho,LD (Vm (Wn.1 h).1) ru]
 ·exact lh (Wi e)
def Cx.with(C:Cx)(dfs:List Deferred)(qb:List (Nat×Obj)):Cx:={C with dfs:=dfs,qb:=qb}
def mark(D:Nat):Deferred:={target:=.collected D,args:=#[]}
def Cx.fj(C:Cx)(D:Nat):Cx:={C with N:={C.N with no:=true},dfs:=[mark D],qb:=[(D,.deferred (some []))]}
inductive Cx.to(C:Cx):Cx→Prop
 |refl:C.to C
 |fj (D:Nat) (h:C.N.no=false) (hO:C.Ow D):C.to (C.fj D)
theorem Inv.sd{C:Cx}{S:Nat→Prop}{ι:ax}{un:Nat→Prop}{f:FS}{a a':Act}{w:World}(h:Inv C S ι un f a w){D:Nat}{o o':Obj}{dfs:List Deferred}{qb:List (Nat×Obj)}
 (hS:S D) (hO:C.Ow D) (hD:w.heap[D]? =some o) (ho:vU o=true) (ru:vU o'=true) (ht:a'.tmps=a.tmps) (hdf:a'.defers=dfs)
 (hq:∀q,q∈qb→S q.1∧(w.putObj D o').heap[q.1]? =some q.2):Inv (C.with dfs qb) S ι un f a' (w.putObj D o'):=by
 have hw:jb S w (w.putObj D o'):=TD hD ho ru
 have hoth:∀o x,f.os o=some x→x.live=true→∀l,ι o=some (some l)→∀b,cj w x l b→(w.putObj D o').heap[b]? =w.heap[b]? :=fun o x hx hlv l hl b hb=>
  Wi (fun e=>(h.own o x hx hlv l hl b hb).2.1 (e▸hS))
 refine⟨fun t=>by rw[ht];exact(h.tm t).dM hw,by rw[ht];exact h.sz,⟨hdf,fun t hlt=>by rw[ht];exact h.df.2.1 t hlt,hq⟩,fun o x hx=>(h.ob o x hx).dM hw (fun l hl hlv b hb=>?_),
  fun o x hx hlv l hl b hb=>?_,fun o o' x x' hx hx' h1 h2 l l' e1 e2 b b1 b2=>h.inj o o' x x' hx hx' h1 h2 l l' e1 e2 b (eP (hoth o x hx h1 l e1) b1) (eP (hoth o' x' hx' h2 l' e2) b2),fun b hb=>by rw[World.putObj_size];exact h.sb b hb,h.sn,h.un,⟨h.fr.os,h.fr.output,by rw[World.putObj_size];exact h.fr.size,fun b hb hn=>?_⟩,h.fo,
  fun g row hg=>⟨(h.gv g row hg).1.dM hw,by
   obtain⟨cs,t,fr,e,es⟩:=(h.gv g row hg).2
   refine⟨cs,t,fr,(Wi (fun eb=>?_)).trans e,es⟩
   subst eb
   rw[hD]at e;injection e with e;subst e;simp[vU]at ho⟩,h.s0,h.hj⟩
 ·grind
 ·rw[World.putObj_size];exact h.own o x hx hlv l hl b (eP (hoth o x hx hlv l hl) hb)
 ·rw[Wi (fun e=>hn (by subst e;exact hO))];exact h.fr.old b hb hn
theorem Inv.lay{C:Cx}{S:Nat→Prop}{ι:ax}{un:Nat→Prop}{f:FS}{a a':Act}{w:World}(h:Inv C S ι un f a w)(o:Obj){dfs:List Deferred}{qb:List (Nat×Obj)}
 (ht:a'.tmps=a.tmps) (hdf:a'.defers=dfs) (hq:∀q,q∈qb→(S q.1∨q.1=w.heap.size)∧(w.alloc o).heap[q.1]? =some q.2):
 Inv (C.with dfs qb) (fun b=>S b∨b=w.heap.size) ι un f a' (w.alloc o):=by
 have hw:fz S w (w.alloc o):=fun b hb=>qJ w o b (h.sb b hb)
 have hs:∀b,S b→(S b∨b=w.heap.size):=fun b hb=>.inl hb
 have hoth:∀o' x,f.os o'=some x→x.live=true→∀l,ι o'=some (some l)→∀b,cj w x l b→(w.alloc o).heap[b]? =w.heap[b]? :=fun o' x hx hlv l hl b hb=>
  qJ w o b (h.own o' x hx hlv l hl b hb).2.2
 refine⟨fun t=>by rw[ht];exact(h.tm t).mono hs hw (ax.le_refl _),by rw[ht];exact h.sz,⟨hdf,fun t hlt=>by rw[ht];exact h.df.2.1 t hlt,hq⟩,
  fun o x hx=>(h.ob o x hx).mono hs hw (ax.le_refl _) (fun l hl hlv b hb=>qJ w _ b (h.own o x hx hlv l hl b hb).2.2),
  fun o x hx hlv l hl b hb=>?_,fun o o' x x' hx hx' h1 h2 l l' e1 e2 b b1 b2=>h.inj o o' x x' hx hx' h1 h2 l l' e1 e2 b (eP (hoth o x hx h1 l e1) b1) (eP (hoth o' x' hx' h2 l' e2) b2),fun b hb=>?_,fun b hb=>?_,h.un,⟨h.fr.os,h.fr.output,?_,fun b hb hn=>?_⟩,h.fo,
  fun g row hg=>(h.gv g row hg).mono hs hw,fun b hb=>.inl (h.s0 b hb),h.hj⟩
 ·have:=h.own o x hx hlv l hl b (eP (hoth o x hx hlv l hl) hb)
  refine⟨this.1,fun hS=>?_,by rw[WX];omega⟩
  simp_all
 ·rw[WX]
  rcases hb with hb|hb
  ·have:=h.sb b hb;omega
  ·omega
 ·rcases hb with hb|hb
  ·exact h.sn b hb
  ·exact .inr (hb▸h.fo _ h.fr.size)
 ·rw[WX];have:=h.fr.size;exact Nat.le_succ_of_le this
 ·rw[qJ w o b (Wr hb h.fr.size)];exact h.fr.old b hb hn
def gY:AV→Bool
 |.int .. |.bool _|.str _|.dq|.sl _|.rp .. |.ei _|.undef|.eh _=>true
 |.fn _ c=>c.isEmpty
 |_=>false
theorem bP.free{S:Nat→Prop}{w:World}{ι:ax}{x:AV}{v:Value}(h:bP S w ι x v)(hf:gY x=true):bR S w x v:=by
 cases h with
 |bI _ _ h=>exact h
 |fn f cap vs hl h=>
  simp only[gY,List.isEmpty_iff]at hf;subst hf
  exact .fn f [] vs hl (fun j x v hx=>by simp at hx)
 |_=>simp[gY]at hf
theorem az.free{S:Nat→Prop}{w:World}{ι:ax}{cs:List AV}{vs:List Value}(h:az S w ι cs vs)(hf:cs.all gY=true):bO S w cs vs:=
 ⟨h.1,fun j x v hx hv=>(h.2 j x v hx hv).free (YG.1 hf x (YA hx))⟩
def ur:AV→Bool
 |.agg cs=>cs.all gY
 |x=>gY x
theorem bP.qj{S:Nat→Prop}{w:World}{ι:ax}{x:AV}{v:Value}(h:bP S w ι x v)(hf:ur x=true):bR S w x v:=by
 cases x with
 |agg cs=>
  obtain⟨vs,rfl,hL⟩:=h.dG
  have:=hL.free hf
  exact .agg _ _ (by simpa using this.1) (fun j x v hx hv=>this.2 j x v hx (by simp_all))
 |_=>exact h.free hf
def setAt{α:Type}(row:List α)(c:Nat)(xs:List α):List α:=row.take c++(xs++row.drop (c+xs.length))
theorem tn{α:Type}(row:List α)(c:Nat)(xs:List α)(h:c+xs.length≤row.length):(setAt row c xs).length=row.length:=by
 simp[setAt];omega
theorem wu{α:Type}(row:List α)(c:Nat)(xs:List α)(h:c+xs.length≤row.length)(j:Nat):
 (setAt row c xs)[j]? =if c≤j∧j<c+xs.length then xs[j-c]? else row[j]? :=by
 unfold setAt
 grind
theorem az.setAt{S:Nat→Prop}{w:World}{ι:ax}{row cs:List AV}{us vs:List Value}(c:Nat)(h:az S w ι row us)(hc:az S w ι cs vs)
 (hlen:c+cs.length≤row.length):az S w ι (setAt row c cs) (Ab.setAt us c vs):=by
 have h1:=h.1;have h2:=hc.1
 refine⟨by rw[tn _ _ _ hlen,tn _ _ _ (by omega)];exact h1,fun j x v hx hv=>?_⟩
 rw[wu _ _ _ hlen]at hx
 rw[wu _ _ _ (by omega),←h2]at hv
 split at hx
 ·rename_i hj
  rw[if_pos hj]at hv;exact hc.2 _ x v hx hv
 ·rename_i hj
  rw[if_neg hj]at hv;exact h.2 j x v hx hv
theorem bO.setAt{S:Nat→Prop}{w:World}{row cs:List AV}{us vs:List Value}(c:Nat)(h:bO S w row us)(hc:bO S w cs vs)
 (hlen:c+cs.length≤row.length):bO S w (Ab.setAt row c cs) (Ab.setAt us c vs):=by
 have h1:=h.1;have h2:=hc.1
 refine⟨by rw[tn _ _ _ hlen,tn _ _ _ (by omega)];exact h1,fun j x v hx hv=>?_⟩
 rw[wu _ _ _ hlen]at hx
 rw[wu _ _ _ (by omega),←h2]at hv
 split at hx
 ·rename_i hj
  rw[if_pos hj]at hv;exact hc.2 _ x v hx hv
 ·rename_i hj
  rw[if_neg hj]at hv;exact h.2 j x v hx hv
theorem Sz{k i e j c n:Nat}(hk:k≠i)(hj:j<e)(hc:c+n≤e):k*e+j<i*e+c∨i*e+c+n≤k*e+j:=by
 rcases Nat.lt_or_gt_of_ne hk with h|h
 ·left
  have:(k+1)*e≤i*e:=Yr e h
  grind
 ·right
  have:(i+1)*e≤k*e:=Yr e h
  grind
theorem kr.setCells{w:World}{l:Loc}(h:kr w l)(lo:Nat)(vs:List Value):kr (w.setCells l.bd lo vs) l:=by
 intro j
 refine⟨fun hj=>?_,by rw[World.frozen?_setCells];exact(h j).2⟩
 obtain⟨v,hv⟩:=(h j).1 hj
 exact YW.1 (World.isSome_setCells l.bd vs lo w ⟨l.bd,j,none⟩ (by simp_all))
section
variable {C:Cx}{S:Nat→Prop}{ι:ax}{un:Nat→Prop}{f:FS}{a:Act}{w:World}
theorem MO{b:Nat}(hS:¬S b)(sb:∀b,S b→b<w.heap.size)(lo:Nat)(vs:List Value):fz S w (w.setCells b lo vs):=by
 intro c hc
 exact Wx w b lo vs (sb c hc) (fun e=>hS (e▸hc))
theorem xZ(w:World)(b:Nat):∀(vs:List Value) (lo:Nat),(w.setCells b lo vs).heap.size=w.heap.size:=by
 intro vs
 induction vs generalizing w with
 |nil=>intro lo;rfl
 |cons v r ih=>intro lo;rw[World.setCells,ih];simp
theorem Inv.writes(h:Inv C S ι un f a w){o:Nat}{x x':AO}(hx:f.os o=some x)(gg:x.live=true){l:Loc}(hl:ι o=some (some l))
 (_hlive':x'.live=true) (lo:Nat) (vs:List Value)
 (hok:fz S w (w.setCells l.bd lo vs)→ca S (w.setCells l.bd lo vs) ι o x') (sL:vT x'=true:=by rfl):
 Inv C S ι un {f with os:=ay f.os [(o,some x')]} a (w.setCells l.bd lo vs):=by
 obtain⟨hO,hS,hlt⟩:=h.own o x hx gg l hl _ (.inl rfl)
 have hw:fz S w (w.setCells l.bd lo vs):=MO hS h.sb lo vs
 have hoth:∀o' y,f.os o'=some y→y.live=true→o'≠o→∀l',ι o'=some (some l')→∀b,cj w y l' b→(w.setCells l.bd lo vs).heap[b]? =w.heap[b]? :=fun o' y hy hly e l' hl' b hb=>
  Wx w _ lo vs (h.own o' y hy hly l' hl' b hb).2.2 (fun eb=>e (h.inj o' o y x hy hx hly gg l' l hl' hl b hb (.inl eb)))
 refine h.hP (fun _ x=>x) hw (ax.le_refl _) ?_ ?_ ?_ (fun b hb=>by rw[xZ];exact h.sb b hb) h.sn h.un ?_
 ·intro o' y hy
  simp only[ay]at hy
  by_cases e:o'=o
  ·simp_all
  ·simp only[e,Yc]at hy
   refine(h.ob o' y hy).mono (fun _ x=>x) hw (ax.le_refl _) (fun l' hl' hy' b hb=>?_)
   grind
 ·intro o' y hy hly l' hl' b hb
  rw[xZ];simp only[ay]at hy
  by_cases e:o'=o
  ·subst e
   rw[hl]at hl'
   injection hl' with hl';injection hl' with hl';subst hl'
   simp only[Yi,Y2]at hy;subst hy;rw[iw sL hb];simp_all
  ·simp only[e,Yc]at hy
   exact h.own o' y hy hly l' hl' b (eP (hoth o' y hy hly e l' hl') hb)
 ·intro o1 o2 y1 y2 hy1 hy2 hl1 dJ l1 l2 e1 e2 b hb hb2
  simp only[ay]at hy1 hy2
  by_cases e:o1=o<;>by_cases e':o2=o
  ·rw[e,e']
  ·subst e
   simp only[e',Yc]at hy2;simp only[Yi,Y2]at hy1;subst hy1
   rw[hl]at e1;injection e1 with e1;injection e1 with e1;subst e1
   exact h.inj o1 o2 x y2 hx hy2 gg dJ l l2 hl e2 b (.inl (iw sL hb)) (eP (hoth o2 y2 hy2 dJ e' l2 e2) hb2)
  ·subst e'
   simp only[e,Yc]at hy1;simp only[Yi,Y2]at hy2;subst hy2
   rw[hl]at e2;injection e2 with e2;injection e2 with e2;subst e2
   exact h.inj o1 o2 y1 x hy1 hx hl1 gg l1 l e1 hl b (eP (hoth o1 y1 hy1 hl1 e l1 e1) hb) (.inl (iw sL hb2))
  ·simp only[e,e',Yc]at hy1 hy2
   exact h.inj o1 o2 y1 y2 hy1 hy2 hl1 dJ l1 l2 e1 e2 b (eP (hoth o1 y1 hy1 hl1 e l1 e1) hb) (eP (hoth o2 y2 hy2 dJ e' l2 e2) hb2)
 ·refine⟨by rw[World.os_setCells];exact h.fr.os,by rw[World.output_setCells];exact h.fr.output,by rw[xZ];exact h.fr.size,fun b hb hn=>?_⟩
  rw[Wx w _ lo vs (by have:=h.fr.size;omega) (fun e=>hn (by simp_all))]
  exact h.fr.old b hb hn
theorem Inv.changes{w':World}(h:Inv C S ι un f a w){o:Nat}{x x':AO}(hx:f.os o=some x)(gg:x.live=true){l:Loc}(hl:ι o=some (some l))
 (_hlive':x'.live=true) (hos:w'.os=w.os) (hout:w'.output=w.output) (j5:w'.heap.size=w.heap.size) (Fq:∀b,b≠l.bd→w'.heap[b]? =w.heap[b]?)
 (hok:fz S w w'→ca S w' ι o x') (sL:vT x'=true:=by rfl):
 Inv C S ι un {f with os:=ay f.os [(o,some x')]} a w':=by
 obtain⟨hO,hS,hlt⟩:=h.own o x hx gg l hl _ (.inl rfl)
 have hw:fz S w w':=fun b hb=>Fq b (fun e=>hS (e▸hb))
 have hoth:∀o' y,f.os o'=some y→y.live=true→o'≠o→∀l',ι o'=some (some l')→∀b,cj w y l' b→w'.heap[b]? =w.heap[b]? :=fun o' y hy hly e l' hl' b hb=>
  Fq b (fun eb=>e (h.inj o' o y x hy hx hly gg l' l hl' hl b hb (.inl eb)))
 refine h.hP (fun _ x=>x) hw (ax.le_refl _) ?_ ?_ ?_ (fun b hb=>by rw[j5];exact h.sb b hb) h.sn h.un ?_
 ·intro o' y hy
  simp only[ay]at hy
  by_cases e:o'=o
  ·simp_all
  ·simp only[e,Yc]at hy
   refine(h.ob o' y hy).mono (fun _ x=>x) hw (ax.le_refl _) (fun l' hl' hy' b hb=>?_)
   grind
 ·intro o' y hy hly l' hl' b hb
  rw[j5];simp only[ay]at hy
  by_cases e:o'=o
  ·subst e
   rw[hl]at hl'
   injection hl' with hl';injection hl' with hl';subst hl'
   simp only[Yi,Y2]at hy;subst hy;rw[iw sL hb];simp_all
  ·simp only[e,Yc]at hy
   exact h.own o' y hy hly l' hl' b (eP (hoth o' y hy hly e l' hl') hb)
 ·intro o1 o2 y1 y2 hy1 hy2 hl1 dJ l1 l2 e1 e2 b hb hb2
  simp only[ay]at hy1 hy2
  by_cases e:o1=o<;>by_cases e':o2=o
  ·rw[e,e']
  ·subst e
   simp only[e',Yc]at hy2;simp only[Yi,Y2]at hy1;subst hy1
   rw[hl]at e1;injection e1 with e1;injection e1 with e1;subst e1
   exact h.inj o1 o2 x y2 hx hy2 gg dJ l l2 hl e2 b (.inl (iw sL hb)) (eP (hoth o2 y2 hy2 dJ e' l2 e2) hb2)
  ·subst e'
   simp only[e,Yc]at hy1;simp only[Yi,Y2]at hy2;subst hy2
   rw[hl]at e2;injection e2 with e2;injection e2 with e2;subst e2
   exact h.inj o1 o2 y1 x hy1 hx hl1 gg l1 l e1 hl b (eP (hoth o1 y1 hy1 hl1 e l1 e1) hb) (.inl (iw sL hb2))
  ·simp only[e,e',Yc]at hy1 hy2
   exact h.inj o1 o2 y1 y2 hy1 hy2 hl1 dJ l1 l2 e1 e2 b (eP (hoth o1 y1 hy1 hl1 e l1 e1) hb) (eP (hoth o2 y2 hy2 dJ e' l2 e2) hb2)
 ·refine⟨hos.trans h.fr.os,hout.trans h.fr.output,by rw[j5];exact h.fr.size,fun b hb hn=>?_⟩
  rw[Fq b (fun e=>hn (by simp_all))]
  exact h.fr.old b hb hn
theorem L3{o:Nat}{p:Bool}{rs:List (List AV)}{l:Loc}{vals:Nat→List Value}(hl:ι o=some (some l))(hcnt:rs.length=l.dO)(hm:kr w l)
 (hat:oV w l rs.length vals) (hrep:jy p S w ι rs vals) {i c:Nat} {row:List AV} (hrow:rs[i]? =some row) {cs:List AV} {vs:List Value}
 (hvs:az S w ι cs vs) (hone:∀v,v∈vs→v.oneCell'=true) (hc:c+cs.length≤row.length) (hw:fz S w (w.setCells l.bd (l.base+(i*l.bo+c)) vs)):
 ca S (w.setCells l.bd (l.base+(i*l.bo+c)) vs) ι o (.rows (p&&cs.all gY) (rs.set i (setAt row c cs))):=by
 have hi:i<rs.length:=by
  rcases YY i rs.length with h|h
  ·exact h
  ·simp_all
 have Za:row.length=(vals i).length:=by
  have:=hrep i row hrow
  cases p<;>exact this.1
 have Ov:=hat.2.1 i hi
 have hlv:=hvs.1
 have hsz:l.base+(i*l.bo+c)+vs.length≤l.size:=by
  have:(i+1)*l.bo≤rs.length*l.bo:=Yr _ hi
  rw[YT]at this
  have:=hat.1
  omega
 have hset:∀(k:Nat) r,(rs.set i (setAt row c cs))[k]? =some r→(k=i∧r=setAt row c cs)∨(k≠i∧rs[k]? =some r):=by
  intro k r hr
  rw[List.getElem?_set]at hr
  by_cases e:i=k
  ·simp_all
  ·grind
 refine .inr ⟨l,fun k=>if k=i then setAt (vals i) c vs else vals k,hl,by simp_all,hm.setCells _ _,⟨by simpa using hat.1,fun k hk=>?_,fun k j v hk hv=>?_⟩,fun k r hr=>?_⟩
 ·simp only[List.length_set]at hk
  by_cases e:k=i
  ·subst e;simp only[Yi];rw[tn _ _ _ (by omega)];exact Ov
  ·simp only[e,Yc];exact hat.2.1 k hk
 ·simp only[List.length_set]at hk
  by_cases e:k=i
  ·subst e
   simp only[Yi]at hv
   rw[wu _ _ _ (by omega)]at hv
   by_cases hj:c≤j∧j<c+vs.length
   ·rw[if_pos hj]at hv
    have kx:j-c<vs.length:=by omega
    have:=WE l.bd vs (l.base+(k*l.bo+c)) w (fun q hq=>by
     obtain⟨u,hu⟩:=(hm (l.base+(k*l.bo+c)+q)).1 (by omega)
     simp_all) (j-c) kx
    grind
   ·rw[if_neg hj]at hv
    have h9:=hat.2.2 k j v hi hv
    refine⟨?_,h9.2⟩
    show(w.setCells l.bd (l.base+(k*l.bo+c)) vs).cell? _=some v
    rw[Wa l.bd vs _ w _ (fun _ _=>by grind)]
    exact h9.1
  ·simp only[e,Yc]at hv
   have kx:j<l.bo:=by
    rw[←hat.2.1 k hk]
    rcases YY j (vals k).length with h|h
    ·exact h
    ·simp_all
   have h9:=hat.2.2 k j v hk hv
   refine⟨?_,h9.2⟩
   show(w.setCells l.bd (l.base+(i*l.bo+c)) vs).cell? _=some v
   have:=Sz (n:=vs.length) (c:=c) e kx (by omega)
   rw[Wa l.bd vs _ w _ (fun _ _=>by grind)]
   exact h9.1
 ·rcases hset k r hr with ⟨rfl,rfl⟩|⟨hne,hr⟩
  ·simp only[Yi]
   have kT:=hrep k row hrow
   cases hp:p with
   |false=>
    rw[hp]at kT;simp only[Bool.false_and,Yu,Yc]at kT⊢
    exact(az.setAt c kT hvs hc).mono (fun _ x=>x) hw (ax.le_refl _)
   |true=>
    rw[hp]at kT;simp only[Bool.true_and,Yi]at kT⊢
    by_cases hf:cs.all gY=true
    ·rw[if_pos hf]
     exact(bO.setAt c kT (hvs.free hf) hc).mono (fun _ x=>x) hw
    ·rw[if_neg hf]
     exact(az.setAt c kT.rep hvs hc).mono (fun _ x=>x) hw (ax.le_refl _)
  ·simp only[hne,Yc]
   have kT:=hrep k r hr
   cases hp:p with
   |false=>
    rw[hp]at kT;simp only[Bool.false_and,Yu,Yc]at kT⊢
    exact kT.mono (fun _ x=>x) hw (ax.le_refl _)
   |true=>
    rw[hp]at kT;simp only[Bool.true_and,Yi]at kT⊢
    by_cases hf:cs.all gY=true
    ·rw[if_pos hf];exact kT.mono (fun _ x=>x) hw
    ·rw[if_neg hf];exact kT.rep.mono (fun _ x=>x) hw (ax.le_refl _)
end
end Go.Ab
