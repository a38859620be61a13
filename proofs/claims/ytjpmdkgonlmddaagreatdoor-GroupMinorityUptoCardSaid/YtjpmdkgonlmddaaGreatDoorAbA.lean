import GoSem.Claims
import Derived.Calls
import Derived.WalkKit
import Derived.Laws.IdiomCopy
import Derived.MapKept
import Derived.RangeFuncRecord
import Derived.Deep.Upon
import Derived.Deep.MidRow
set_option linter.unusedVariables false
namespace Go.Ab
set_option linter.defProp false
theorem Y0{α β:Type _}(a:α)(f:α→Option β):(some a).bind f=f a:=rfl
def Y1:=@Option.some.injEq
def Y2:=@decide_eq_true
def Y3:=@List.getElem?_eq_getElem
theorem Y4{α:Sort _}{a b:α}:cond true a b=a:=rfl
def Y5:=@run_underlying
def Y6:=@Sem.run_bind
theorem Y7{α:Sort _}{a b:α}:cond false a b=b:=rfl
def Y8:=@Bool.and_eq_true
def Y9:=@if_false
def Ya:=@List.length_map
def Yb:=@List.map_append
def Yc:=@List.getElem?_append_right
def Yd:=@List.length_append
def Ye:=@Option.map_eq_some_iff
theorem Yf{α:Type _}{a:α}{l:List α}:(a::l).length=l.length+1:=rfl
def Yg:=@Nat.le_refl
def Yh:=@if_true
def Yi:=@decide_eq_false
def Yj:=@List.mem_cons
def Yk:=@List.mem_cons_of_mem
def Yl:=@List.getElem?_map
def Ym:=@decide_eq_true_eq
def Yn:=@List.getElem?_append_left
def Yo:=@Nat.mul_le_mul_right
def Yp:=@List.map_cons
theorem Yq{α β:Type _}{a:α}{f:α→β}:(some a).map f=some (f a):=rfl
def Yr:=@Bool.false_eq_true
def Ys:=@List.mem_cons_self
def Yt:=@List.length_eq_zero_iff
theorem Yu{α:Type _}{a b:α}:(some a).getD b=a:=rfl
def Yv:=@Nat.zero_le
def Yw:=@List.length_take
theorem Yx{α:Type _}:([]:List α).length=0:=rfl
def Yy:=@List.mem_append
def Yz:=@List.length_drop
def YA:=@List.mem_of_getElem?
def YB:=@List.mem_singleton
def YC:=@List.getElem?_eq_some_iff
def YD:=@of_decide_eq_true
def YE:=@List.append_assoc
def YF:=@List.all_eq_true
def YG:=@IntKind.wrap_i64
theorem YH{α:Type _}{a:α}{b c:List α}:a::b++c=a::(b++c):=rfl
def YI:=@congrArg
def YJ:=@Array.getElem?_eq_getElem
def YK:=@List.mem_map
def YL:=@Option.some.inj
def YM:=@List.getElem?_drop
def YN:=@List.map_map
theorem YO{α:Type _}(a:List α):[]++a=a:=rfl
def YP:=@Bool.not_true
def YQ:=@Option.isSome_iff_exists
def YR:=@Nat.zero_add
def YS:=@List.take_of_length_le
def YT:=@Nat.add_mul
def YU:=@Array.getD_eq_getD_getElem?
def YV:=@Nat.le_trans
def YW:=@List.map_set
def YX:=@Nat.lt_or_ge
def YY:=@List.getElem_of_mem
def YZ:=@List.mem_of_mem_take
def W0:=@Nat.le_of_ble_eq_true
def W4:=@List.getD_eq_getElem?_getD
def W5:=@List.take_add_one
def W6:=@List.drop_eq_getElem_cons
def W7:=@List.getElem?_take
def W8:=@List.append_nil
def W9:=@Nat.not_lt_zero
def Wa:=@World.cell?_setCells_out
def Wb:=@Int.fdiv_eq_ediv_of_nonneg
def Wc:=@List.mem_of_mem_drop
def Wd:=@of_decide_eq_false
def We:=@List.getElem_mem
def Wf:=@Nat.mod_eq_of_lt
def Wg:=@Array.getElem?_toList
def Wh:=@Nat.min_eq_left
def Wi:=@World.putObj_heap_other
def Wj:=@List.getElem?_of_mem
def Wl:=@Nat.le_add_right
def Wm:=@Array.getElem?_eq_some_iff
def Wn:=@List.mem_filter
def Wo:=@List.getElem?_eq_none
def Wp:=@Nat.lt_of_lt_of_le
def Wq:=@List.map_congr_left
def Wr:=@List.drop_of_length_le
def Ws:=@Prod.mk.injEq
def Wt:=@List.filter_cons
def Wu:=@World.heap_setCells_other
def Wv:=@List.exists_mem_of_ne_nil
def Ww:=@Array.getElem?_setIfInBounds_ne
def Wx:=@Nat.add_assoc
def Wy:=@World.cell?_setCells_in
def Wz:=@List.take_length
def WA:=@IntKind.wrap_u64
def WB:=@Nat.le_of_lt
def WC:=@IntKind.wrap_u8
def WD:=@List.length_filter_le
def WE:=@List.pairwise_iff_getElem
def WG:=@Classical.byContradiction
def WH:=@Bool.not_false
def WJ:=@Nat.sub_self
def WL:=@List.not_mem_nil
def WM:=@List.mem_map_of_mem
def WN:=@List.length_pos_iff
def WO:=@eqGuard_at_pointer
def WP:=@List.getElem?_set_self
def WQ:=@List.take_append_of_le_length
def WR:=@Nat.lt_trichotomy
def WS:=@Bool.not_eq_eq_eq_not
def WU:=@List.length_replicate
def WV:=@List.take_append_drop
def WW:=@World.size_alloc
def WX:=@Array.toList_map
def WY:=@run_storeCells_cells
def WZ:=@List.mem_append_left
def V0:=@Nat.lt_succ_self
def V1:=@beq_self_eq_true
def V2:=@Array.getElem?_push
def V3:=@Instr.checkKey.eq_2
def V4:=@Result.ok.injEq
def V5:=@List.nodup_cons
def V6:=@Nat.zero_mul
def V7:=@Nat.eq_zero_or_pos
def V8:=@run_sliceBound
def V9:=@List.drop_zero
def Va:=@List.drop_drop
def Vb:=@Nat.add_sub_cancel_left
def Vc:=@List.append_cancel_left
def Ve:=@List.ext_getElem?
def Vf:=@Array.toList_push
def Vg:=@List.nodup_append
def Vh:=@World.putObj_heap_same
def Vi:=@Sum.inr.inj
def Vj:=@Int.le_refl
def Vk:=@Option.map_id
def Vl:=@Array.getElem?_modify
def Vm:=@Nat.eq_of_beq_eq_true
def Vn:=@List.countP_eq_length
def Vo:=@beq_iff_eq
def LIM:Nat:=1073741824
inductive AV where
 |int (k:IntKind) (n:Int)
 |bool (b:Bool)
 |str (s:List UInt8)
 |esl
 |sl (xs:List (List AV))
 |agg (cs:List AV)
 |tup (vs:List AV)
 |rp (row:List AV) (off:Nat)
 |fn (f:Nat) (cap:List AV)
 |con (v:Value)
 |ptr (o row off:Nat)
 |osl (o off len room:Nat)
 |osw (o z:Nat)
 |mapo (o:Nat)
 |undef
 |anyb (p:Prop)
 deriving Inhabited
structure Loc where
 blk:Nat
 base:Nat
 esz:Nat
 size:Nat
 cnt:Nat
abbrev Imap:=Nat→Option (Option Loc)
def FB:Nat:=1000000000
def fnV(f:Nat)(vs:Array Value):Value:=bif Nat.blt f FB then .func (.func f) #[] vs else .func (.func (f-FB)) vs #[]
theorem ZpW(f:Nat)(vs:Array Value):(fnV f vs).oneCell'=true:=by
 unfold fnV
 cases Nat.blt f FB<;>rfl
theorem Zkf{f:Nat}(h:Nat.blt f FB=true)(vs:Array Value):fnV f vs=.func (.func f) #[] vs:=by
 unfold fnV
 grind
abbrev Zbo(w:World)(b j:Nat):Option Value:=w.cell? ⟨b,j,none⟩
inductive IRep(S:Nat→Prop)(w:World):AV→Value→Prop
 |int (k:IntKind) (n:Int):IRep S w (.int k n) (.int k n)
 |bool (b:Bool):IRep S w (.bool b) (.bool b)
 |str (s:ByteArray):IRep S w (.str s.data.toList) (.string s)
 |esl (a:Option Addr):IRep S w .esl (.slice a 0 0)
 |snil:IRep S w (.sl []) (.slice none 0 0)
 |sl (xs:List (List AV)) (a:Addr) (cap sz:Nat) (vals:Nat→List Value)
  (hcap:xs.length≤cap) (hlim:xs.length≤LIM)
  (hS:xs≠[]→S a.block∧a.spot=none)
  (hlen:∀(i:Nat) r,xs[i]? =some r→r.length=sz∧(vals i).length=sz)
  (hcell:∀(i j:Nat) v,i<xs.length→(vals i)[j]? =some v→Zbo w a.block (a.off+(i*sz+j))=some v∧v.oneCell'=true)
  (hrep:∀(i j:Nat) r x v,xs[i]? =some r→r[j]? =some x→(vals i)[j]? =some v→IRep S w x v):
  IRep S w (.sl xs) (.slice (some a) xs.length cap)
 |agg (cs:List AV) (vs:Array Value) (hl:cs.length=vs.size)
  (h:∀(j:Nat) x v,cs[j]? =some x→vs[j]? =some v→IRep S w x v):IRep S w (.agg cs) (.agg vs)
 |tup (cs:List AV) (vs:Array Value) (hl:cs.length=vs.size)
  (h:∀(j:Nat) x v,cs[j]? =some x→vs[j]? =some v→IRep S w x v):IRep S w (.tup cs) (.tuple vs)
 |rp (row:List AV) (off blk base:Nat) (vals:List Value) (hS:S blk) (hl:row.length=vals.length)
  (hcell:∀(j:Nat) v,vals[j]? =some v→Zbo w blk (base+j)=some v∧v.oneCell'=true)
  (h:∀(j:Nat) x v,row[j]? =some x→vals[j]? =some v→IRep S w x v):
  IRep S w (.rp row off) (.pointer (some ⟨blk,base+off,none⟩))
 |fn (f:Nat) (cap:List AV) (vs:Array Value) (hl:cap.length=vs.size)
  (h:∀(j:Nat) x v,cap[j]? =some x→vs[j]? =some v→IRep S w x v):IRep S w (.fn f cap) (fnV f vs)
 |con (v:Value) (h:v.oneCell'=true):IRep S w (.con v) v
 |undef (v:Value):IRep S w .undef v
 |anyb (p:Prop) (b:Bool) (h:b=true→p):IRep S w (.anyb p) (.bool b)
def ZbH(S:Nat→Prop)(w w':World):Prop:=∀b:Nat,S b→w'.heap[b]? =w.heap[b]?
theorem ZbU{w w':World}{b j:Nat}(h:w'.heap[b]? =w.heap[b]?):Zbo w' b j=Zbo w b j:=by
 simp only[Zbo,World.cell?,h]
theorem Zgj{w w':World}{b j:Nat}(h:w'.heap[b]? =w.heap[b]?):w'.frozen? ⟨b,j,none⟩=w.frozen? ⟨b,j,none⟩:=by
 simp only[World.frozen?,h]
theorem IRep.mono{S S':Nat→Prop}{w w':World}(hs:∀b,S b→S' b)(hw:ZbH S w w'){x:AV}{v:Value}
 (h:IRep S w x v):IRep S' w' x v:=by
 induction h with
 |int k n=>exact .int k n
 |bool b=>exact .bool b
 |str s=>exact .str s
 |esl a=>exact .esl a
 |snil=>exact .snil
 |sl xs a cap sz vals hcap hlim hS hlen hcell _ ih=>
  refine .sl xs a cap sz vals hcap hlim (fun hn=>⟨hs _ (hS hn).1,(hS hn).2⟩) hlen (fun i j v hi hv=>?_) (fun i j r x v h1 h2 h3=>ih i j r x v h1 h2 h3)
  have hn:xs≠[]:=by intro e;subst e;simp at hi
  rw[ZbU (hw _ (hS hn).1)]
  grind
 |agg cs vs hl _ ih=>exact .agg cs vs hl ih
 |tup cs vs hl _ ih=>exact .tup cs vs hl ih
 |rp row off blk base vals hS hl hcell _ ih=>
  refine .rp row off blk base vals (hs _ hS) hl (fun j v hv=>?_) ih
  rw[ZbU (hw _ hS)]
  grind
 |fn f cap vs hl _ ih=>exact .fn f cap vs hl ih
 |con v h=>exact .con v h
 |undef v=>exact .undef v
 |anyb p b h=>exact .anyb p b h
inductive Rep(S:Nat→Prop)(w:World)(ι:Imap):AV→Value→Prop
 |imm (x:AV) (v:Value) (h:IRep S w x v):Rep S w ι x v
 |agg (cs:List AV) (vs:Array Value) (hl:cs.length=vs.size)
  (h:∀(j:Nat) x v,cs[j]? =some x→vs[j]? =some v→Rep S w ι x v):Rep S w ι (.agg cs) (.agg vs)
 |tup (cs:List AV) (vs:Array Value) (hl:cs.length=vs.size)
  (h:∀(j:Nat) x v,cs[j]? =some x→vs[j]? =some v→Rep S w ι x v):Rep S w ι (.tup cs) (.tuple vs)
 |fn (f:Nat) (cap:List AV) (vs:Array Value) (hl:cap.length=vs.size)
  (h:∀(j:Nat) x v,cap[j]? =some x→vs[j]? =some v→Rep S w ι x v):Rep S w ι (.fn f cap) (fnV f vs)
 |ptr (o r c:Nat) (l:Loc) (h:ι o=some (some l)):Rep S w ι (.ptr o r c) (.pointer (some ⟨l.blk,l.base+(r*l.esz+c),none⟩))
 |osl (o off len room cap:Nat) (a:Addr) (l:Loc) (h:ι o=some (some l)) (h1:len≤room) (h2:room≤cap)
  (h3:l.base+(off+cap)*l.esz≤l.size) (h4:len≤LIM) (h5:off+room≤l.cnt) (ha:cap≠0→a=⟨l.blk,l.base+off*l.esz,none⟩):
  Rep S w ι (.osl o off len room) (.slice (some a) len cap)
 |osw (o z cap:Nat) (a:Addr) (l:Loc) (h:ι o=some (some l)) (h2:l.cnt≤cap)
  (h3:l.base+cap*l.esz≤l.size) (h4:l.cnt≤LIM) (hz:l.cnt=0→cap≠0→l.esz=z) (ha:cap≠0→a=⟨l.blk,l.base,none⟩):
  Rep S w ι (.osw o z) (.slice (some a) l.cnt cap)
 |oswv (o z:Nat) (a:Option Addr) (h:ι o=some none):Rep S w ι (.osw o z) (.slice a 0 0)
 |oslv (o:Nat) (a:Option Addr) (h:ι o=some none):Rep S w ι (.osl o 0 0 0) (.slice a 0 0)
 |mapo (o:Nat) (l:Loc) (h:ι o=some (some l)):Rep S w ι (.mapo o) (.map (some l.blk))
def Imap.le(ι ι':Imap):Prop:=∀o x,ι o=some x→ι' o=some x
theorem Rep.mono{S S':Nat→Prop}{w w':World}{ι ι':Imap}(hs:∀b,S b→S' b)(hw:ZbH S w w')(hι:ι.le ι'){x:AV}{v:Value}
 (h:Rep S w ι x v):Rep S' w' ι' x v:=by
 induction h with
 |imm x v h=>exact .imm x v (h.mono hs hw)
 |agg cs vs hl _ ih=>exact .agg cs vs hl ih
 |tup cs vs hl _ ih=>exact .tup cs vs hl ih
 |fn f cap vs hl _ ih=>exact .fn f cap vs hl ih
 |ptr o r c l h=>exact .ptr o r c l (hι _ _ h)
 |osl o off len room cap a l h h1 h2 h3 h4 h5 ha=>exact .osl o off len room cap a l (hι _ _ h) h1 h2 h3 h4 h5 ha
 |osw o z cap a l h h2 h3 h4 hz ha=>exact .osw o z cap a l (hι _ _ h) h2 h3 h4 hz ha
 |oswv o z a h=>exact .oswv o z a (hι _ _ h)
 |oslv o a h=>exact .oslv o a (hι _ _ h)
 |mapo o l h=>exact .mapo o l (hι _ _ h)
theorem Imap.le_refl(ι:Imap):ι.le ι:=fun _ _ h=>h
def Zee:AV→Bool
 |.int .. |.bool _|.str _|.esl|.sl _|.rp .. |.fn .. |.con _|.ptr .. |.osl .. |.osw .. |.mapo _=>true
 |.agg _|.tup _|.undef=>false
 |.anyb _=>false
theorem IRep.cell{S:Nat→Prop}{w:World}{x:AV}{v:Value}(h:IRep S w x v)(hc:Zee x=true):v.oneCell'=true:=by
 cases h<;>first|rfl|assumption|exact ZpW _ _|(simp[Zee]at hc;done)
theorem Rep.cell{S:Nat→Prop}{w:World}{ι:Imap}{x:AV}{v:Value}(h:Rep S w ι x v)(hc:Zee x=true):v.oneCell'=true:=by
 cases h with
 |imm _ _ h=>exact h.cell hc
 |_=>first|rfl|exact ZpW _ _|(simp[Zee]at hc;done)
def ZbE:AV→Option (List AV)
 |.agg cs=>if cs.all Zee then some cs else none
 |.int k n=>some [.int k n]
 |.bool b=>some [.bool b]
 |.str s=>some [.str s]
 |.esl=>some [.esl]
 |.sl xs=>some [.sl xs]
 |.rp r o=>some [.rp r o]
 |.fn f c=>some [.fn f c]
 |.con v=>some [.con v]
 |.ptr o r c=>some [.ptr o r c]
 |.osl o a b c=>some [.osl o a b c]
 |.osw o z=>some [.osw o z]
 |.mapo o=>some [.mapo o]
 |.tup _=>none
 |.undef=>none
 |.anyb _=>none
def RepL(S:Nat→Prop)(w:World)(ι:Imap)(cs:List AV)(vs:List Value):Prop:=
 cs.length=vs.length∧∀(j:Nat) x v,cs[j]? =some x→vs[j]? =some v→Rep S w ι x v
def IRepL(S:Nat→Prop)(w:World)(cs:List AV)(vs:List Value):Prop:=
 cs.length=vs.length∧∀(j:Nat) x v,cs[j]? =some x→vs[j]? =some v→IRep S w x v
theorem IRepL.rep{S:Nat→Prop}{w:World}{ι:Imap}{cs:List AV}{vs:List Value}(h:IRepL S w cs vs):RepL S w ι cs vs:=
 ⟨h.1,fun j x v a b=>.imm _ _ (h.2 j x v a b)⟩
theorem RepL.mono{S S':Nat→Prop}{w w':World}{ι ι':Imap}(hs:∀b,S b→S' b)(hw:ZbH S w w')(hι:ι.le ι'){cs:List AV}{vs:List Value}
 (h:RepL S w ι cs vs):RepL S' w' ι' cs vs:=⟨h.1,fun j x v a b=>(h.2 j x v a b).mono hs hw hι⟩
theorem IRepL.mono{S S':Nat→Prop}{w w':World}(hs:∀b,S b→S' b)(hw:ZbH S w w'){cs:List AV}{vs:List Value}
 (h:IRepL S w cs vs):IRepL S' w' cs vs:=⟨h.1,fun j x v a b=>(h.2 j x v a b).mono hs hw⟩
theorem RepL.nil{S:Nat→Prop}{w:World}{ι:Imap}:RepL S w ι [] []:=⟨rfl,fun j x v h=>by simp at h⟩
theorem RepL.cons{S:Nat→Prop}{w:World}{ι:Imap}{x:AV}{v:Value}{cs:List AV}{vs:List Value}(h:Rep S w ι x v)(hr:RepL S w ι cs vs):
 RepL S w ι (x::cs) (v::vs):=by
 refine⟨by simp[hr.1],fun j y u hy hu=>?_⟩
 cases j with
 |zero=>simp_all
 |succ j=>exact hr.2 j y u (by simp_all) (by simp_all)
theorem RepL.append{S:Nat→Prop}{w:World}{ι:Imap}{as bs:List AV}{us vs:List Value}(ha:RepL S w ι as us)(hb:RepL S w ι bs vs):
 RepL S w ι (as++bs) (us++vs):=by
 refine⟨by simp[ha.1,hb.1],fun j x v hx hv=>?_⟩
 by_cases hj:j<as.length
 ·rw[Yn hj]at hx
  rw[Yn (by have:=ha.1;omega)]at hv
  exact ha.2 j x v hx hv
 ·rw[Yc (by omega)]at hx
  rw[Yc (by have:=ha.1;omega)]at hv
  refine hb.2 (j-as.length) x v hx ?_
  rw[ha.1];exact hv
theorem RepL.take{S:Nat→Prop}{w:World}{ι:Imap}{as:List AV}{us:List Value}(n:Nat)(h:RepL S w ι as us):RepL S w ι (as.take n) (us.take n):=by
 refine⟨by simp[h.1],fun j x v hx hv=>?_⟩
 rw[W7]at hx hv
 split at hx
 ·rename_i hlt
  simp only[hlt,Yh]at hv;exact h.2 j x v hx hv
 grind
theorem RepL.drop{S:Nat→Prop}{w:World}{ι:Imap}{as:List AV}{us:List Value}(n:Nat)(h:RepL S w ι as us):RepL S w ι (as.drop n) (us.drop n):=by
 refine⟨by simp[h.1],fun j x v hx hv=>?_⟩
 rw[YM]at hx hv
 exact h.2 _ x v hx hv
theorem Rep.agg_inv{S:Nat→Prop}{w:World}{ι:Imap}{cs:List AV}{v:Value}(h:Rep S w ι (.agg cs) v):
 ∃vs:Array Value,v=.agg vs∧RepL S w ι cs vs.toList:=by
 cases h with
 |imm _ _ h=>
  cases h with
  |agg _ vs hl h=>exact⟨vs,rfl,by omega,fun j x v a b=>.imm _ _ (h j x v a (by grind))⟩
 |agg _ vs hl h=>exact⟨vs,rfl,by omega,fun j x v a b=>h j x v a (by grind)⟩
theorem Rep.tup_inv{S:Nat→Prop}{w:World}{ι:Imap}{cs:List AV}{v:Value}(h:Rep S w ι (.tup cs) v):
 ∃vs:Array Value,v=.tuple vs∧RepL S w ι cs vs.toList:=by
 cases h with
 |imm _ _ h=>
  cases h with
  |tup _ vs hl h=>exact⟨vs,rfl,by omega,fun j x v a b=>.imm _ _ (h j x v a (by grind))⟩
 |tup _ vs hl h=>exact⟨vs,rfl,by omega,fun j x v a b=>h j x v a (by grind)⟩
theorem Rep.fn_inv{S:Nat→Prop}{w:World}{ι:Imap}{f:Nat}{cs:List AV}{v:Value}(h:Rep S w ι (.fn f cs) v):
 ∃vs:Array Value,v=fnV f vs∧RepL S w ι cs vs.toList:=by
 cases h with
 |imm _ _ h=>
  cases h with
  |fn _ _ vs hl h=>exact⟨vs,rfl,by omega,fun j x v a b=>.imm _ _ (h j x v a (by grind))⟩
 |fn _ _ vs hl h=>exact⟨vs,rfl,by omega,fun j x v a b=>h j x v a (by grind)⟩
theorem Rep.int_inv{S:Nat→Prop}{w:World}{ι:Imap}{k:IntKind}{n:Int}{v:Value}(h:Rep S w ι (.int k n) v):v=.int k n:=by
 cases h with|imm _ _ h=>cases h;rfl
theorem Rep.bool_inv{S:Nat→Prop}{w:World}{ι:Imap}{b:Bool}{v:Value}(h:Rep S w ι (.bool b) v):v=.bool b:=by
 cases h with|imm _ _ h=>cases h;rfl
theorem Rep.str_inv{S:Nat→Prop}{w:World}{ι:Imap}{l:List UInt8}{v:Value}(h:Rep S w ι (.str l) v):v=.string ⟨l.toArray⟩:=by
 cases h with|imm _ _ h=>cases h;rfl
theorem Rep.con_inv{S:Nat→Prop}{w:World}{ι:Imap}{u v:Value}(h:Rep S w ι (.con u) v):v=u:=by
 cases h with|imm _ _ h=>cases h;rfl
theorem Rep.ptr_inv{S:Nat→Prop}{w:World}{ι:Imap}{o r c:Nat}{v:Value}(h:Rep S w ι (.ptr o r c) v):
 ∃l,ι o=some (some l)∧v=.pointer (some ⟨l.blk,l.base+(r*l.esz+c),none⟩):=by
 cases h with
 |imm _ _ h=>cases h
 |ptr _ _ _ l h=>simp_all
theorem Rep.anyb_inv{S:Nat→Prop}{w:World}{ι:Imap}{p:Prop}{v:Value}(h:Rep S w ι (.anyb p) v):∃b:Bool,v=.bool b∧(b=true→p):=by
 cases h with|imm _ _ h=>cases h with|anyb _ b h=>simp_all
theorem Rep.mapo_inv{S:Nat→Prop}{w:World}{ι:Imap}{o:Nat}{v:Value}(h:Rep S w ι (.mapo o) v):
 ∃l,ι o=some (some l)∧v=.map (some l.blk):=by
 cases h with
 |imm _ _ h=>cases h
 |mapo _ l h=>simp_all
theorem IRep.str_mk{S:Nat→Prop}{w:World}(l:List UInt8):IRep S w (.str l) (.string ⟨l.toArray⟩):=by
 have:=IRep.str (S:=S) (w:=w) ⟨l.toArray⟩
 omega
theorem ZeD{S:Nat→Prop}{w:World}{ι:Imap}{x:AV}{cs:List AV}{v:Value}(hc:ZbE x=some cs)(h:Rep S w ι x v):
 RepL S w ι cs v.cells.toList∧cs.all Zee=true:=by
 have one:∀y,ZbE y=some [y]→Zee y=true→y=x→RepL S w ι cs v.cells.toList∧cs.all Zee=true:=by
  intro y e hy hxy;subst hxy;rw[e]at hc
  injection hc with hc
  subst hc
  refine⟨?_,by simp[hy]⟩
  have hv:=h.cell hy
  have:v.cells.toList=[v]:=by cases v<;>simp[Value.oneCell']at hv<;>simp[Value.cells]
  rw[this];exact RepL.cons h .nil
 cases x with
 |agg ds=>
  simp only[ZbE]at hc;split at hc
  ·rename_i hall
   injection hc with hc
   subst hc
   obtain⟨vs,rfl,hr⟩:=h.agg_inv
   exact⟨hr,hall⟩
  grind
 |tup _=>simp[ZbE]at hc
 |undef=>simp[ZbE]at hc
 |anyb p=>simp[ZbE]at hc
 |int k n=>exact one _ rfl rfl rfl
 |bool b=>exact one _ rfl rfl rfl
 |str s=>exact one _ rfl rfl rfl
 |esl=>exact one _ rfl rfl rfl
 |sl xs=>exact one _ rfl rfl rfl
 |rp r o=>exact one _ rfl rfl rfl
 |fn f c=>exact one _ rfl rfl rfl
 |con v=>exact one _ rfl rfl rfl
 |ptr o r c=>exact one _ rfl rfl rfl
 |osl o a b c=>exact one _ rfl rfl rfl
 |osw o z=>exact one _ rfl rfl rfl
 |mapo o=>exact one _ rfl rfl rfl
end Go.Ab
open Go.MapKept (Stamped)
namespace Go.Ab
inductive GO where
 |rows (p:Bool) (rs:List (List AV))
 |fmap (z:Nat) (fs:List (AV×List (List AV)))
 deriving Inhabited
abbrev Gr:=List (List Nat×GO)
inductive AO where
 |rows (p:Bool) (rs:List (List AV))
 |froz (rs:List (List AV))
 |mapo (p:Bool) (es:List (AV×AV))
 |fmap (z:Nat) (fs:List (AV×List (List AV))) (h:Option (Nat×Nat))
 |lit (rs:List (List AV))
 |gmap (es:List (AV×Gr)) (h:Option (Nat×Nat))
 deriving Inhabited
def GO.ao:GO→AO
 |.rows p rs=>.rows p rs
 |.fmap z fs=>.fmap z fs none
structure FS where
 g:Nat→AV
 os:Nat→Option AO
def ZgS(w:World)(l:Loc)(n:Nat)(vals:Nat→List Value):Prop:=
 l.base+n*l.esz≤l.size∧(∀i,i<n→(vals i).length=l.esz)∧
  ∀(i j:Nat) v,i<n→(vals i)[j]? =some v→Zbo w l.blk (l.base+(i*l.esz+j))=some v∧v.oneCell'=true
def Zcy(p:Bool)(S:Nat→Prop)(w:World)(ι:Imap)(rs:List (List AV))(vals:Nat→List Value):Prop:=
 ∀(i:Nat) r,rs[i]? =some r→if p=true then IRepL S w r (vals i)else RepL S w ι r (vals i)
def Mine(w:World)(l:Loc):Prop:=
 ∀j,(j<l.size→∃v,Zbo w l.blk j=some v)∧(j<l.size∨l.esz≠1→w.frozen? ⟨l.blk,j,none⟩=false)
def Zdm(p:Bool)(S:Nat→Prop)(w:World)(ι:Imap)(es:List (AV×AV))(xs:List MapEntry):Prop:=
 es.length=xs.length∧∀(i:Nat) e x,es[i]? =some e→xs[i]? =some x→IRep S w e.1 x.key∧Rep S w ι e.2 x.val∧(p=true→IRep S w e.2 x.val)
def vblk:Value→Option Nat
 |.slice (some a) _ cap=>if cap=0 then none else some a.block
 |_=>none
def ListV(S:Nat→Prop)(w:World)(z:Nat)(rs:List (List AV))(v:Value):Prop:=
 (vblk v=none∧rs=[]∧∃a,v=.slice a 0 0)∨
  ∃l:Loc,vblk v=some l.blk∧0<l.size∧Rep S w (fun _=>some (some l)) (.osw 0 z) v∧∃vals,rs.length=l.cnt∧Mine w l∧ZgS w l rs.length vals∧Zcy true S w (fun _=>none) rs vals
def FRep(S:Nat→Prop)(w:World)(ι:Imap)(z:Nat)(fs:List (AV×List (List AV)))(h:Option (Nat×Nat))(xs:Array MapEntry):Prop:=
 fs.length=xs.size∧
 (∀(i:Nat) e x,fs[i]? =some e→xs[i]? =some x→IRep S w e.1 x.key∧(h.map (·.1)≠some i→ListV S w z e.2 x.val)∧∀q,h=some (i,q)→Rep S w ι (.osw q z) x.val)∧
 ∀(i j:Nat) x y b,xs[i]? =some x→xs[j]? =some y→h.map (·.1)≠some i→h.map (·.1)≠some j→vblk x.val=some b→vblk y.val=some b→i=j
def FLim(xs:Array MapEntry)(clock:Nat):Prop:=xs.size≤LIM∧Stamped xs clock
def ZjO(w:World)(l:Loc):Prop:=∃c e,w.heap[l.blk]? =some (.cells c e (0,0))∧l.size=c.size
theorem ZjO.mine{w:World}{l:Loc}(h:ZjO w l):Mine w l:=by
 obtain⟨c,e,h1,h2⟩:=h
 intro j
 refine⟨fun hj=>⟨c[j]'(by omega),?_⟩,fun _=>?_⟩
 ·simp only[Zbo,World.cell?,h1]
  simp
 ·simp[World.frozen?,h1]
def vb:Value→Option Nat
 |.pointer (some a)=>some a.block
 |.map (some b)=>some b
 |.slice (some a) _ cap=>if cap=0 then none else some a.block
 |_=>none
def pvl(w:World)(v:Value):List Nat→Option Value
 | []=>some v
 |c::q=>match pvl w v q with
  |some (.pointer (some a))=>Zbo w a.block (a.off+c)
  |_=>none
def pat(w:World)(v:Value)(q:List Nat):Option Nat:=(pvl w v q).bind vb
def footG(w:World)(c:Nat):GO→Nat→Prop
 |.rows ..,b=>b=c
 |.fmap ..,b=>b=c∨∃(xs:Array MapEntry) (clock i:Nat) (e:MapEntry),w.heap[c]? =some (.map xs clock)∧xs[i]? =some e∧vblk e.val=some b
def gfoot(w:World)(gs:Gr)(v:Value)(b:Nat):Prop:=
 ∃p g,(p,g)∈gs∧((∃r q,p=r++q∧pat w v q=some b)∨∃c,pat w v p=some c∧footG w c g b)
def lblk:Option (Option Loc)→Option Nat
 |some (some l)=>some l.blk
 |_=>none
def Zjv(S:Nat→Prop)(w:World)(ι:Imap)(o:Nat):GO→Prop
 |.rows p rs=>(ι o=some none∧rs=[])∨∃l vals,ι o=some (some l)∧rs.length=l.cnt∧Mine w l∧ZgS w l rs.length vals∧Zcy p S w ι rs vals
 |.fmap z fs=>∃l xs clock,ι o=some (some l)∧w.heap[l.blk]? =some (.map xs clock)∧FLim xs clock∧FRep S w ι z fs none xs
def ZoI(gs:Gr):Prop:=∀c q g,(c::q,g)∈gs→∃g',(q,g')∈gs
structure Zhg(S:Nat→Prop)(w:World)(gs:Gr)(v:Value)(ι:Imap):Prop where
 root:Rep S w ι (.ptr 0 0 0) v
 ob:∀(k:Nat) p g,gs[k]? =some (p,g)→Zjv S w ι k g∧pat w v p=lblk (ι k)
 inj:∀(k k':Nat) p p' g g',gs[k]? =some (p,g)→gs[k']? =some (p',g')→∀l l',ι k=some (some l)→ι k'=some (some l')→∀b,footG w l.blk g b→footG w l'.blk g' b→k=k'
 ways:ZoI gs
 top:∀k,gs.length≤k→ι k=none
structure GRep(S:Nat→Prop)(w:World)(ι:Imap)(es:List (AV×Gr))(h:Option (Nat×Nat))(xs:Array MapEntry)(B:Nat):Prop where
 len:es.length=xs.size
 at_:∀(i:Nat) e x,es[i]? =some e→xs[i]? =some x→IRep S w e.1 x.key∧(h.map (·.1)≠some i→(∃ιg,Zhg S w e.2 x.val ιg)∧∀b,gfoot w e.2 x.val b→b≠B)∧∀q,h=some (i,q)→Rep S w ι (.ptr q 0 0) x.val
 inj:∀(i j:Nat) e e' x x' b,es[i]? =some e→es[j]? =some e'→xs[i]? =some x→xs[j]? =some x'→h.map (·.1)≠some i→h.map (·.1)≠some j→gfoot w e.2 x.val b→gfoot w e'.2 x'.val b→i=j
def ObjOk(S:Nat→Prop)(w:World)(ι:Imap)(o:Nat):AO→Prop
 |.rows p rs=>(ι o=some none∧rs=[])∨∃l vals,ι o=some (some l)∧rs.length=l.cnt∧Mine w l∧ZgS w l rs.length vals∧Zcy p S w ι rs vals
 |.froz rs=>(ι o=some none∧rs=[])∨∃l vals,ι o=some (some l)∧rs.length=l.cnt∧S l.blk∧ZgS w l rs.length vals∧Zcy true S w ι rs vals
 |.mapo p es=>∃l xs clock,ι o=some (some l)∧w.heap[l.blk]? =some (.map xs clock)∧Zdm p S w ι es xs.toList∧xs.size≤LIM
 |.fmap z fs h=>∃l xs clock,ι o=some (some l)∧w.heap[l.blk]? =some (.map xs clock)∧FLim xs clock∧FRep S w ι z fs h xs
 |.lit rs=>∃l vals,ι o=some (some l)∧ZjO w l∧l.esz=1∧0<rs.length∧rs.length=l.cnt∧ZgS w l rs.length vals∧Zcy true S w ι rs vals
 |.gmap es h=>∃l xs clock,ι o=some (some l)∧w.heap[l.blk]? =some (.map xs clock)∧FLim xs clock∧GRep S w ι es h xs l.blk
def foot(w:World)(x:AO)(l:Loc)(b:Nat):Prop:=b=l.blk∨match x with
 |.fmap _ _ h=>∃(xs:Array MapEntry) (clock i:Nat) (e:MapEntry),w.heap[l.blk]? =some (.map xs clock)∧xs[i]? =some e∧h.map (·.1)≠some i∧vblk e.val=some b
 |.gmap es h=>∃(xs:Array MapEntry) (clock i:Nat) (e:AV×Gr) (x:MapEntry),w.heap[l.blk]? =some (.map xs clock)∧es[i]? =some e∧xs[i]? =some x∧h.map (·.1)≠some i∧gfoot w e.2 x.val b
 |_=>False
theorem Znu{w w':World}{v:Value}:∀(q:List Nat),(∀r s b,q=r++s→pat w v s=some b→w'.heap[b]? =w.heap[b]?)→pvl w' v q=pvl w v q
 | [],_=>rfl
 |c::q,h=>by
  have ih:=Znu q (fun r s b e hb=>h (c::r) s b (by grind) hb)
  simp only[pvl,ih]
  cases hq:pvl w v q with
  |none=>rfl
  |some x=>
   cases x with
   |pointer a=>
    cases a with
    |none=>rfl
    |some a=>exact ZbU (h [c] q a.block rfl (by simp[pat,hq,vb]))
   |_=>rfl
theorem Zf2{w w':World}{c:Nat}(h:w'.heap[c]? =w.heap[c]?){g:GO}{b:Nat}:footG w' c g b↔footG w c g b:=by
 cases g with
 |rows p rs=>rfl
 |fmap z fs=>simp only[footG,h]
theorem ZgK(w:World)(c:Nat)(g:GO):footG w c g c:=by cases g;exact rfl;exact .inl rfl
theorem ZhY{w w':World}{gs:Gr}{v:Value}(h:∀b,gfoot w gs v b→w'.heap[b]? =w.heap[b]?){p:List Nat}{g:GO}(hp:(p,g)∈gs){r q:List Nat}(e:p=r++q):pat w' v q=pat w v q:=by
 unfold pat
 rw[Znu q (fun r' s b e' hb=>h b ⟨p,g,hp,.inl ⟨r++r',s,by simp_all,hb⟩⟩)]
theorem ZgJ{w w':World}{gs:Gr}{v:Value}(h:∀b,gfoot w gs v b→w'.heap[b]? =w.heap[b]?){b:Nat}:gfoot w' gs v b↔gfoot w gs v b:=by
 constructor
 ·rintro⟨p,g,hp,h1⟩
  refine⟨p,g,hp,?_⟩
  rcases h1 with ⟨r,q,e,h1⟩|⟨c,h1,h2⟩
  ·exact .inl ⟨r,q,e,by rw[←ZhY h hp e];exact h1⟩
  ·rw[ZhY h hp (r:=[]) rfl]at h1
   exact .inr ⟨c,h1,(Zf2 (h c ⟨p,g,hp,.inl ⟨[],p,rfl,h1⟩⟩)).1 h2⟩
 ·rintro⟨p,g,hp,h1⟩
  refine⟨p,g,hp,?_⟩
  rcases h1 with ⟨r,q,e,h1⟩|⟨c,h1,h2⟩
  ·exact .inl ⟨r,q,e,by rw[ZhY h hp e];exact h1⟩
  ·exact .inr ⟨c,by rw[ZhY h hp (r:=[]) rfl];exact h1,(Zf2 (h c ⟨p,g,hp,.inl ⟨[],p,rfl,h1⟩⟩)).2 h2⟩
theorem Zao{w w':World}{x:AO}{l:Loc}(h:∀b,foot w x l b→w'.heap[b]? =w.heap[b]?){b:Nat}(hb:foot w' x l b):foot w x l b:=by
 have hl:=h _ (.inl rfl)
 cases x with
 |gmap es hh=>
  rcases hb with hb|⟨xs,c,i,e,x,h1,h2,h3,h4,h5⟩
  ·exact .inl hb
  ·rw[hl]at h1
   exact .inr ⟨xs,c,i,e,x,h1,h2,h3,h4,(ZgJ (fun b hb=>h b (.inr ⟨xs,c,i,e,x,h1,h2,h3,h4,hb⟩))).1 h5⟩
 |_=>
  unfold foot at hb⊢;rw[hl]at hb;exact hb
theorem Zol{w w':World}{x:AO}{l:Loc}(h:∀b,foot w x l b→w'.heap[b]? =w.heap[b]?){b:Nat}(hb:foot w x l b):foot w' x l b:=by
 have hl:=h _ (.inl rfl)
 cases x with
 |gmap es hh=>
  rcases hb with hb|⟨xs,c,i,e,x,h1,h2,h3,h4,h5⟩
  ·exact .inl hb
  ·exact .inr ⟨xs,c,i,e,x,by rw[hl];exact h1,h2,h3,h4,(ZgJ (fun b hb=>h b (.inr ⟨xs,c,i,e,x,h1,h2,h3,h4,hb⟩))).2 h5⟩
 |_=>
  unfold foot at hb⊢;rw[hl];exact hb
def ZjZ:AO→Bool
 |.fmap .. =>false
 |.gmap .. =>false
 |_=>true
theorem Za7{w:World}{x:AO}{l:Loc}{b:Nat}(h:ZjZ x=true)(hb:foot w x l b):b=l.blk:=by
 rcases hb with hb|hb
 ·exact hb
 ·cases x<;>first|grind|(cases h)
theorem ListV.mono{S S':Nat→Prop}{w w':World}(hs:∀b,S b→S' b)(hw:ZbH S w w'){z:Nat}{rs:List (List AV)}{v:Value}
 (hb:∀b,vblk v=some b→w'.heap[b]? =w.heap[b]?) (h:ListV S w z rs v):ListV S' w' z rs v:=by
 rcases h with h|⟨l,h1,h0,h2,vals,h3,h4,h5,h6⟩
 ·exact .inl h
 ·have e:=hb _ h1
  refine .inr ⟨l,h1,h0,h2.mono hs hw (fun _ _ h=>h),vals,h3,fun j=>?_,⟨h5.1,h5.2.1,fun i j v hi hv=>?_⟩,fun i r hr=>?_⟩
  ·rw[ZbU e,Zgj e];exact h4 j
  ·rw[ZbU e];exact h5.2.2 i j v hi hv
  ·have:=h6 i r hr
   simp only[Yh]at this⊢;exact this.mono hs hw
theorem FRep.mono{S S':Nat→Prop}{w w':World}{ι ι':Imap}(hs:∀b,S b→S' b)(hw:ZbH S w w')(hι:ι.le ι'){z:Nat}{fs:List (AV×List (List AV))}{h:Option (Nat×Nat)}{xs:Array MapEntry}
 (hb:∀(i:Nat) e b,xs[i]? =some e→h.map (·.1)≠some i→vblk e.val=some b→w'.heap[b]? =w.heap[b]?) (hF:FRep S w ι z fs h xs):FRep S' w' ι' z fs h xs:=by
 refine⟨hF.1,fun i e x he hx=>?_,hF.2.2⟩
 obtain⟨h1,h2,h3⟩:=hF.2.1 i e x he hx
 exact⟨h1.mono hs hw,fun hn=>(h2 hn).mono hs hw (fun b hv=>hb i x b hx hn hv),fun q hq=>(h3 q hq).mono hs hw hι⟩
theorem Zcy.mono'{p:Bool}{S S':Nat→Prop}{w w':World}{ι ι':Imap}(hs:∀b,S b→S' b)(hw:ZbH S w w')(hι:ι.le ι')
 {rs:List (List AV)} {vals:Nat→List Value} (h:Zcy p S w ι rs vals):Zcy p S' w' ι' rs vals:=by
 intro i r hr
 have:=h i r hr
 cases p
 ·simp only[Yr,Y9]at this⊢;exact this.mono hs hw hι
 ·simp only[Yh]at this⊢;exact this.mono hs hw
theorem Zjv.mono{S S':Nat→Prop}{w w':World}{ι ι':Imap}{o:Nat}{g:GO}(hs:∀b,S b→S' b)(hw:ZbH S w w')(hι:ι.le ι')
 (hb:∀l,ι o=some (some l)→∀b,footG w l.blk g b→w'.heap[b]? =w.heap[b]?) (h:Zjv S w ι o g):Zjv S' w' ι' o g:=by
 cases g with
 |rows p rs=>
  rcases h with ⟨h,rfl⟩|⟨l,vals,h1,hc,h2,h3,h4⟩
  ·exact .inl ⟨hι _ _ h,rfl⟩
  ·have e:=hb l h1 _ rfl
   refine .inr ⟨l,vals,hι _ _ h1,hc,fun j=>?_,⟨h3.1,h3.2.1,fun i j v hi hv=>?_⟩,h4.mono' hs hw hι⟩
   ·rw[ZbU e,Zgj e];exact h2 j
   ·rw[ZbU e];exact h3.2.2 i j v hi hv
 |fmap z fs=>
  obtain⟨l,xs,clock,h1,h2,h3,h4⟩:=h
  exact⟨l,xs,clock,hι _ _ h1,by rw[hb l h1 _ (.inl rfl)];exact h2,h3,h4.mono hs hw hι (fun i e b he hn hv=>hb l h1 b (.inr ⟨xs,clock,i,e,h2,he,hv⟩))⟩
theorem Zks{S:Nat→Prop}{w:World}{ι:Imap}{o:Nat}{g:GO}:Zjv S w ι o g↔ObjOk S w ι o g.ao:=by cases g<;>exact Iff.rfl
theorem Zlz{w:World}{g:GO}{l:Loc}{b:Nat}:footG w l.blk g b↔foot w g.ao l b:=by
 cases g with
 |rows p rs=>exact⟨fun h=>.inl h,fun h=>h.elim id False.elim⟩
 |fmap z fs=>
  constructor
  ·rintro(h|⟨xs,c,i,e,h1,h2,h3⟩)
   ·exact .inl h
   ·exact .inr ⟨xs,c,i,e,h1,h2,by simp,h3⟩
  ·rintro(h|⟨xs,c,i,e,h1,h2,_,h3⟩)
   ·exact .inl h
   ·exact .inr ⟨xs,c,i,e,h1,h2,h3⟩
theorem Zhg.blk{S:Nat→Prop}{w:World}{gs:Gr}{v:Value}{ιg:Imap}(h:Zhg S w gs v ιg){k:Nat}{p:List Nat}{g:GO}(hk:gs[k]? =some (p,g)){l:Loc}(hl:ιg k=some (some l)){b:Nat}(hb:footG w l.blk g b):gfoot w gs v b:=
 ⟨p,g,YA hk,.inr ⟨l.blk,by rw[(h.ob k p g hk).2,hl];rfl,hb⟩⟩
theorem ZoI.suf{gs:Gr}(h:ZoI gs):∀{p:List Nat} {g:GO},(p,g)∈gs→∀{r q:List Nat},p=r++q→∃g',(q,g')∈gs
 |_,g,hp,[],q,e=>⟨g,by simp_all⟩
 |_,g,hp,c::r,q,e=>by
  subst e
  obtain⟨g',hg'⟩:=h c (r++q) g hp
  exact h.suf hg' rfl
theorem Zhg.of_foot{S:Nat→Prop}{w:World}{gs:Gr}{v:Value}{ιg:Imap}(h:Zhg S w gs v ιg){b:Nat}(hb:gfoot w gs v b):∃k p g l,gs[k]? =some (p,g)∧ιg k=some (some l)∧footG w l.blk g b:=by
 have key:∀p g c,(p,g)∈gs→pat w v p=some c→∃k l,gs[k]? =some (p,g)∧ιg k=some (some l)∧l.blk=c:=by
  intro p g c hp hc
  obtain⟨k,hk⟩:=Wj hp
  have h2:=(h.ob k p g hk).2
  rw[hc]at h2
  cases hι:ιg k with
  |none=>rw[hι]at h2;cases h2
  |some y=>
   cases y with
   |none=>rw[hι]at h2;cases h2
   |some l=>rw[hι]at h2;injection h2 with h2;grind
 obtain⟨p,g,hp,h1⟩:=hb
 rcases h1 with ⟨r,q,e,h1⟩|⟨c,h1,h2⟩
 ·obtain⟨g',hg'⟩:=h.ways.suf hp e
  obtain⟨k,l,h3,h4,h5⟩:=key q g' b hg' h1
  exact⟨k,q,g',l,h3,h4,by rw[h5];exact ZgK _ _ _⟩
 grind
theorem Zhg.mono{S S':Nat→Prop}{w w':World}(hs:∀b,S b→S' b)(hw:ZbH S w w'){gs:Gr}{v:Value}{ιg:Imap}
 (hb:∀b,gfoot w gs v b→w'.heap[b]? =w.heap[b]?) (h:Zhg S w gs v ιg):Zhg S' w' gs v ιg:=by
 refine⟨h.root.mono hs hw (fun _ _ h=>h),fun k p g hk=>⟨?_,?_⟩,fun k k' p p' g g' hk hk' l l' hl hl' b b1 b2=>?_,h.ways,h.top⟩
 ·exact(h.ob k p g hk).1.mono hs hw (fun _ _ h=>h) (fun l hl b hf=>hb b (h.blk hk hl hf))
 ·rw[ZhY hb (YA hk) (r:=[]) rfl];exact(h.ob k p g hk).2
 ·rw[Zf2 (hb _ (h.blk hk hl (ZgK _ _ _)))]at b1
  rw[Zf2 (hb _ (h.blk hk' hl' (ZgK _ _ _)))]at b2;exact h.inj k k' p p' g g' hk hk' l l' hl hl' b b1 b2
theorem GRep.mono{S S':Nat→Prop}{w w':World}{ι ι':Imap}(hs:∀b,S b→S' b)(hw:ZbH S w w')(hι:ι.le ι'){es:List (AV×Gr)}{h:Option (Nat×Nat)}{xs:Array MapEntry}{B:Nat}
 (hb:∀(i:Nat) e x b,es[i]? =some e→xs[i]? =some x→h.map (·.1)≠some i→gfoot w e.2 x.val b→w'.heap[b]? =w.heap[b]?) (hF:GRep S w ι es h xs B):GRep S' w' ι' es h xs B:=by
 have sm:∀(i:Nat) e x,es[i]? =some e→xs[i]? =some x→h.map (·.1)≠some i→∀b,gfoot w' e.2 x.val b↔gfoot w e.2 x.val b:=fun i e x h1 h2 h3 b=>ZgJ (fun b h4=>hb i e x b h1 h2 h3 h4)
 refine⟨hF.len,fun i e x he hx=>?_,fun i j e e' x x' b he he' hx hx' hn hn' h1 h2=>?_⟩
 ·obtain⟨h1,h2,h3⟩:=hF.at_ i e x he hx
  refine⟨h1.mono hs hw,fun hn=>?_,fun q hq=>(h3 q hq).mono hs hw hι⟩
  obtain⟨⟨ιg,hg⟩,h4⟩:=h2 hn
  exact⟨⟨ιg,hg.mono hs hw (fun b hf=>hb i e x b he hx hn hf)⟩,fun b hf=>h4 b ((sm i e x he hx hn b).1 hf)⟩
 ·exact hF.inj i j e e' x x' b he he' hx hx' hn hn' ((sm i e x he hx hn b).1 h1) ((sm j e' x' he' hx' hn' b).1 h2)
def AO.live:AO→Bool
 |.froz _=>false
 |_=>true
inductive Wk:AV→AV→Prop
 |refl (a:AV):Wk a a
 |esl:Wk .esl (.sl [])
 |agg (as bs:List AV) (hl:as.length=bs.length) (h:∀(j:Nat) x y,as[j]? =some x→bs[j]? =some y→Wk x y):Wk (.agg as) (.agg bs)
 |tup (as bs:List AV) (hl:as.length=bs.length) (h:∀(j:Nat) x y,as[j]? =some x→bs[j]? =some y→Wk x y):Wk (.tup as) (.tup bs)
 |sl (xs ys:List (List AV)) (hl:xs.length=ys.length) (hr:∀(i:Nat) r q,xs[i]? =some r→ys[i]? =some q→r.length=q.length)
  (h:∀(i j:Nat) r q x y,xs[i]? =some r→ys[i]? =some q→r[j]? =some x→q[j]? =some y→Wk x y):Wk (.sl xs) (.sl ys)
def WkL:List AV→List AV→Prop
 | [],[]=>True
 |a::as,b::bs=>Wk a b∧WkL as bs
 |_,_=>False
def WkR:List (List AV)→List (List AV)→Prop
 | [],[]=>True
 |a::as,b::bs=>WkL a b∧WkR as bs
 |_,_=>False
def WkO(a b:AO):Prop:=b=a∨(∃p rs rs',a=.rows p rs∧b=.rows p rs'∧WkR rs rs')∨∃rs rs',a=.froz rs∧b=.froz rs'∧WkR rs rs'
def WkOs:List (Option AO)→List (Option AO)→Prop
 | [],[]=>True
 |some a::as,some b::bs=>WkO a b∧WkOs as bs
 |_,_=>False
theorem ZrL{S:Nat→Prop}{w:World}{v:Value}(h:IRep S w .esl v):IRep S w (.sl []) v:=by
 cases h with
 |esl a=>
  cases a with
  |none=>exact .snil
  |some a=>exact .sl [] a 0 0 (fun _=>[]) (Yg _) (by simp) (fun h=>absurd rfl h) (fun i r h=>by simp at h) (fun i j v h=>by simp at h) (fun i j r x v h=>by simp at h)
theorem Zfv{α β:Type}{as:List α}{bs:List β}(h:as.length=bs.length){j:Nat}{y:β}(hy:bs[j]? =some y):∃x,as[j]? =some x:=by
 have:j<bs.length:=(YC.1 hy).1
 simp_all
theorem Wk.irep{S:Nat→Prop}{w:World}{a b:AV}(h:Wk a b):∀v,IRep S w a v→IRep S w b v:=by
 induction h with
 |refl a=>simp
 |esl=>exact fun v h=>ZrL h
 |agg as bs hl _ ih=>
  intro v hv
  cases hv with
  |agg _ vs hl2 h2=>
   refine .agg _ _ (by omega) (fun j y u hy hu=>?_)
   grind
 |tup as bs hl _ ih=>
  intro v hv
  cases hv with
  |tup _ vs hl2 h2=>
   refine .tup _ _ (by omega) (fun j y u hy hu=>?_)
   grind
 |sl xs ys hl hr _ ih=>
  intro v hv
  cases hv with
  |snil=>
   obtain rfl:ys=[]:=Yt.1 (by simp_all)
   exact .snil
  |sl _ a cap sz vals hcap hlim hS hlen hcell hrep=>
   rw[hl]
   refine .sl ys a cap sz vals (by omega) (by omega) (fun hn=>hS (fun e=>hn (Yt.1 (by simp_all)))) (fun i q hq=>?_) (fun i j v hi hv=>hcell i j v (by omega) hv) (fun i j q y v hq hy hv=>?_)
   ·grind
   ·obtain⟨r,hr1⟩:=Zfv hl hq
    grind
theorem Wk.rep{S:Nat→Prop}{w:World}{ι:Imap}{a b:AV}(h:Wk a b):∀v,Rep S w ι a v→Rep S w ι b v:=by
 induction h with
 |refl a=>simp
 |esl=>intro v h;cases h with|imm _ _ h=>exact .imm _ _ (ZrL h)
 |agg as bs hl _ ih=>
  intro v hv
  obtain⟨vs,rfl,h1,h2⟩:=hv.agg_inv
  refine .agg _ _ (by simp_all) (fun j y u hy hu=>?_)
  obtain⟨x,hx⟩:=Zfv hl hy
  grind
 |tup as bs hl _ ih=>
  intro v hv
  obtain⟨vs,rfl,h1,h2⟩:=hv.tup_inv
  refine .tup _ _ (by simp_all) (fun j y u hy hu=>?_)
  obtain⟨x,hx⟩:=Zfv hl hy
  grind
 |sl xs ys hl hr h _=>
  intro v hv
  cases hv with
  |imm _ _ hv=>exact .imm _ _ ((Wk.sl xs ys hl hr h).irep v hv)
theorem WkL.get:∀{as bs:List AV},WkL as bs→as.length=bs.length∧∀(j:Nat) x y,as[j]? =some x→bs[j]? =some y→Wk x y
 | [],[],_=>⟨rfl,fun j x y _ h=>by simp at h⟩
 |a::as,b::bs,h=>by
  obtain⟨h1,h2⟩:=WkL.get h.2
  refine⟨by simp[h1],fun j x y hx hy=>?_⟩
  cases j with
  |zero=>simp at hx hy;subst hx;subst hy;exact h.1
  |succ j=>grind
 | [],_::_,h=>h.elim
 |_::_,[],h=>h.elim
theorem WkR.get:∀{as bs:List (List AV)},WkR as bs→as.length=bs.length∧∀(j:Nat) x y,as[j]? =some x→bs[j]? =some y→WkL x y
 | [],[],_=>⟨rfl,fun j x y _ h=>by simp at h⟩
 |a::as,b::bs,h=>by
  obtain⟨h1,h2⟩:=WkR.get h.2
  refine⟨by simp[h1],fun j x y hx hy=>?_⟩
  cases j with
  |zero=>simp at hx hy;subst hx;subst hy;exact h.1
  |succ j=>grind
 | [],_::_,h=>h.elim
 |_::_,[],h=>h.elim
theorem WkL.repL{S:Nat→Prop}{w:World}{ι:Imap}{as bs:List AV}{vs:List Value}(h:WkL as bs)(ha:RepL S w ι as vs):RepL S w ι bs vs:=by
 obtain⟨h1,h2⟩:=h.get
 refine⟨by rw[←h1];exact ha.1,fun j y v hy hv=>?_⟩
 obtain⟨x,hx⟩:=Zfv h1 hy
 exact(h2 j x y hx hy).rep v (ha.2 j x v hx hv)
theorem WkL.irepL{S:Nat→Prop}{w:World}{as bs:List AV}{vs:List Value}(h:WkL as bs)(ha:IRepL S w as vs):IRepL S w bs vs:=by
 obtain⟨h1,h2⟩:=h.get
 refine⟨by rw[←h1];exact ha.1,fun j y v hy hv=>?_⟩
 obtain⟨x,hx⟩:=Zfv h1 hy
 exact(h2 j x y hx hy).irep v (ha.2 j x v hx hv)
theorem WkO.live{a b:AO}(h:WkO a b):b.live=a.live:=by
 rcases h with rfl|⟨p,rs,rs',rfl,rfl,_⟩|⟨rs,rs',rfl,rfl,_⟩<;>rfl
theorem WkO.ok{S:Nat→Prop}{w:World}{ι:Imap}{o:Nat}{a b:AO}(h:WkO a b)(ha:ObjOk S w ι o a):ObjOk S w ι o b:=by
 rcases h with rfl|⟨p,rs,rs',rfl,rfl,h⟩|⟨rs,rs',rfl,rfl,h⟩
 ·exact ha
 ·obtain⟨h1,h2⟩:=h.get
  rcases ha with ⟨q,rfl⟩|⟨l,vals,e1,e2,e3,e4,e5⟩
  ·exact .inl ⟨q,Yt.1 (by simp_all)⟩
  ·refine .inr ⟨l,vals,e1,by omega,e3,by simp_all,fun i r hr=>?_⟩
   obtain⟨x,hx⟩:=Zfv h1 hr
   have hw:=h2 i x r hx hr
   have:=e5 i x hx
   cases p
   ·simp only[Yr,Y9]at this⊢;exact hw.repL this
   ·simp only[Yh]at this⊢;exact hw.irepL this
 ·obtain⟨h1,h2⟩:=h.get
  rcases ha with ⟨q,rfl⟩|⟨l,vals,e1,e2,e3,e4,e5⟩
  ·exact .inl ⟨q,Yt.1 (by simp_all)⟩
  ·refine .inr ⟨l,vals,e1,by omega,e3,by simp_all,fun i r hr=>?_⟩
   obtain⟨x,hx⟩:=Zfv h1 hr
   have hw:=h2 i x r hx hr
   have:=e5 i x hx
   simp only[Yh]at this⊢;exact hw.irepL this
theorem Wk.eq{a b:AV}(h:b=a):Wk a b:=h▸.refl b
theorem Wk.a{as bs:List AV}(h:WkL as bs):Wk (.agg as) (.agg bs):=.agg as bs h.get.1 h.get.2
theorem Wk.t{as bs:List AV}(h:WkL as bs):Wk (.tup as) (.tup bs):=.tup as bs h.get.1 h.get.2
theorem WkL.nil:WkL [] []:=trivial
theorem WkL.cons{a b:AV}{as bs:List AV}(h:Wk a b)(h':WkL as bs):WkL (a::as) (b::bs):=⟨h,h'⟩
theorem WkR.nil:WkR [] []:=trivial
theorem WkR.cons{a b:List AV}{as bs:List (List AV)}(h:WkL a b)(h':WkR as bs):WkR (a::as) (b::bs):=⟨h,h'⟩
theorem WkL.refl:∀{as:List AV},WkL as as
 | []=>trivial
 |a::_=>⟨.refl a,WkL.refl⟩
theorem WkL.of_eq{as bs:List AV}(h:bs=as):WkL as bs:=h▸WkL.refl
theorem WkOs.of_eq{α:Type}{f:α→AO}:∀{l:List α} {as:List (Option AO)},l.map (fun e=>some (f e))=as→WkOs as (l.map fun e=>some (f e))
 | [],_,rfl=>trivial
 |_::_,_,rfl=>⟨.inl rfl,WkOs.of_eq rfl⟩
theorem WkOs.get:∀{as bs:List (Option AO)},WkOs as bs→∀(j:Nat) x y,as[j]? =some x→bs[j]? =some (some y)→∃a,x=some a∧WkO a y
 | [],[],_,j,x,y,h1,h2=>by simp at h1
 |some a::as,some b::bs,h,j,x,y,h1,h2=>by
  cases j with
  |zero=>simp at h1 h2;subst h1;subst h2;exact⟨a,rfl,h.1⟩
  |succ j=>exact WkOs.get h.2 j x y (by simp_all) (by simp_all)
 | [],_::_,h,_,_,_,_,_=>h.elim
 |none::_,_::_,h,_,_,_,_,_=>by simp[WkOs]at h
 |some _::_,none::_,h,_,_,_,_,_=>by simp[WkOs]at h
 |some _::_,[],h,_,_,_,_,_=>by simp_all
 |none::_,[],h,_,_,_,_,_=>by simp_all
theorem WkOs.nil:WkOs [] []:=trivial
theorem WkOs.cons{a b:AO}{as bs:List (Option AO)}(h:WkO a b)(h':WkOs as bs):WkOs (some a::as) (some b::bs):=⟨h,h'⟩
theorem WkO.eq{a b:AO}(h:b=a):WkO a b:=.inl h
theorem WkO.r{p:Bool}{rs rs':List (List AV)}(h:WkR rs rs'):WkO (.rows p rs) (.rows p rs'):=.inr (.inl ⟨p,rs,rs',rfl,rfl,h⟩)
theorem Zcy.mono{p:Bool}{S S':Nat→Prop}{w w':World}{ι ι':Imap}(hs:∀b,S b→S' b)(hw:ZbH S w w')(hι:ι.le ι')
 {rs:List (List AV)} {vals:Nat→List Value} (h:Zcy p S w ι rs vals):Zcy p S' w' ι' rs vals:=by
 intro i r hr
 have:=h i r hr
 cases p
 ·simp only[Yr,Y9]at this⊢;exact this.mono hs hw hι
 ·simp only[Yh]at this⊢;exact this.mono hs hw
theorem ObjOk.mono{S S':Nat→Prop}{w w':World}{ι ι':Imap}{o:Nat}{x:AO}(hs:∀b,S b→S' b)(hw:ZbH S w w')(hι:ι.le ι')
 (hb:∀l,ι o=some (some l)→x.live=true→∀b,foot w x l b→w'.heap[b]? =w.heap[b]?) (h:ObjOk S w ι o x):ObjOk S' w' ι' o x:=by
 cases x with
 |rows p rs=>
  rcases h with ⟨h,rfl⟩|⟨l,vals,h1,hc,h2,h3,h4⟩
  ·exact .inl ⟨hι _ _ h,rfl⟩
  ·have e:=hb l h1 rfl _ (.inl rfl)
   refine .inr ⟨l,vals,hι _ _ h1,hc,fun j=>?_,⟨h3.1,h3.2.1,fun i j v hi hv=>?_⟩,h4.mono hs hw hι⟩
   ·rw[ZbU e,Zgj e];exact h2 j
   ·rw[ZbU e];exact h3.2.2 i j v hi hv
 |froz rs=>
  rcases h with ⟨h,rfl⟩|⟨l,vals,h1,hc,h2,h3,h4⟩
  ·exact .inl ⟨hι _ _ h,rfl⟩
  ·have e:=hw _ h2
   refine .inr ⟨l,vals,hι _ _ h1,hc,hs _ h2,⟨h3.1,h3.2.1,fun i j v hi hv=>?_⟩,h4.mono hs hw hι⟩
   rw[ZbU e];exact h3.2.2 i j v hi hv
 |mapo p es=>
  obtain⟨l,xs,clock,h1,h2,h3,h4⟩:=h
  refine⟨l,xs,clock,hι _ _ h1,by rw[hb l h1 rfl _ (.inl rfl)];exact h2,⟨h3.1,fun i e x a b=>?_⟩,h4⟩
  exact⟨(h3.2 i e x a b).1.mono hs hw,(h3.2 i e x a b).2.1.mono hs hw hι,fun hp=>((h3.2 i e x a b).2.2 hp).mono hs hw⟩
 |fmap z fs hh=>
  obtain⟨l,xs,clock,h1,h2,h3,h4⟩:=h
  exact⟨l,xs,clock,hι _ _ h1,by rw[hb l h1 rfl _ (.inl rfl)];exact h2,h3,h4.mono hs hw hι (fun i e b he hn hv=>hb l h1 rfl b (.inr ⟨xs,clock,i,e,h2,he,hn,hv⟩))⟩
 |gmap es hh=>
  obtain⟨l,xs,clock,h1,h2,h3,h4⟩:=h
  exact⟨l,xs,clock,hι _ _ h1,by rw[hb l h1 rfl _ (.inl rfl)];exact h2,h3,h4.mono hs hw hι (fun i e x b he hx hn hf=>hb l h1 rfl b (.inr ⟨xs,clock,i,e,x,h2,he,hx,hn,hf⟩))⟩
 |lit rs=>
  obtain⟨l,vals,h1,⟨c,e',h2,h3⟩,h4,h5,h6,h7,h8⟩:=h
  have e:=hb l h1 rfl _ (.inl rfl)
  exact⟨l,vals,hι _ _ h1,⟨c,e',by simp_all,h3⟩,h4,h5,h6,⟨h7.1,h7.2.1,fun i j v hi hv=>by rw[ZbU e];exact h7.2.2 i j v hi hv⟩,h8.mono hs hw hι⟩
structure Fr(Ow:Nat→Prop)(w0 w:World):Prop where
 os:w.os=w0.os
 output:w.output=w0.output
 size:w0.heap.size≤w.heap.size
 old:∀b,b<w0.heap.size→¬Ow b→w.heap[b]? =w0.heap[b]?
abbrev Gmap:=Nat→Option (List AV)
def GRow(S:Nat→Prop)(w:World)(g:Nat)(row:List AV):Prop:=IRep S w (.rp row 0) (.pointer (some ⟨g,0,none⟩))∧∃cs t fr,w.heap[g]? =some (.cells cs t fr)∧cs.size=row.length
theorem GRow.mono{S S':Nat→Prop}{w w':World}{g:Nat}{row:List AV}(h:GRow S w g row)(hs:∀b,S b→S' b)(hw:ZbH S w w'):GRow S' w' g row:=by
 refine⟨h.1.mono hs hw,?_⟩
 have hg:S g:=by
  have:=h.1
  generalize hv:Value.pointer (some ⟨g,0,none⟩)=v at this
  cases this with
  |rp row off blk base vals hS hl hcell hr=>
   simp_all
 obtain⟨cs,t,fr,e,es⟩:=h.2
 exact⟨cs,t,fr,(hw g hg).trans e,es⟩
def GOk(G:Gmap)(S:Nat→Prop)(w:World):Prop:=∀g row,G g=some row→GRow S w g row
structure Sl where
 lo:Nat
 n:Nat
 no:Bool
structure Cx where
 G:Gmap
 w0:World
 N:Sl
 Ow:Nat→Prop
 S0:Nat→Prop
 m:Nat
 i0:Imap
 i0m:∀j L,i0 j=some L→j<m
 kv:Nat→Value
 dfs:List Deferred
 qb:List (Nat×Obj)
structure Inv(C:Cx)(S:Nat→Prop)(ι:Imap)(un:Nat→Prop)(f:FS)(a:Act)(w:World):Prop where
 tm:∀t,Rep S w ι (f.g t) (a.tmps.getD t undef)
 sz:a.tmps.size=C.N.n
 df:a.defers=C.dfs∧(∀t,t<C.N.lo→a.tmps.getD t undef=C.kv t)∧∀q,q∈C.qb→S q.1∧w.heap[q.1]? =some q.2
 ob:∀o x,f.os o=some x→ObjOk S w ι o x
 own:∀o x,f.os o=some x→x.live=true→∀l,ι o=some (some l)→∀b,foot w x l b→C.Ow b∧¬S b∧b<w.heap.size
 inj:∀o o' x x',f.os o=some x→f.os o'=some x'→x.live=true→x'.live=true→
  ∀l l',ι o=some (some l)→ι o'=some (some l')→∀b,foot w x l b→foot w x' l' b→o=o'
 sb:∀b,S b→b<w.heap.size
 sn:∀b,S b→C.S0 b∨C.Ow b
 un:∀o,un o→ι o=none
 fr:Fr C.Ow C.w0 w
 fo:∀b,C.w0.heap.size≤b→C.Ow b
 gv:GOk C.G S w
 s0:∀b,C.S0 b→S b
 hj:∀j L,C.i0 j=some L→ι j=some L
def FS.put(f:FS)(dst:Option Nat)(v:AV):FS:=
 match dst with
 |some d=>{f with g:=fun t=>if t=d then v else f.g t}
 |none=>f
def updO(os:Nat→Option AO):List (Nat×Option AO)→Nat→Option AO
 | []=>os
 |(k,x)::r=>fun o=>if o=k then x else updO os r o
def FS.upd(f:FS)(dst:Option Nat)(v:AV)(U:List (Nat×Option AO)):FS:=
 {(f.put dst v)with os:=updO f.os U}
theorem Zem(w:World)(o:Obj)(i:Nat)(h:i<w.heap.size):(w.alloc o).heap[i]? =w.heap[i]? :=by
 simp only[World.alloc,V2]
 grind
section
variable {C:Cx}
theorem Inv.put{S:Nat→Prop}{ι:Imap}{un:Nat→Prop}{f:FS}{a:Act}{w:World}(h:Inv C S ι un f a w){dst:Option Nat}
 {v:AV} {v':Value} (hv:Rep S w ι v v') (hd:∀d,dst=some d→C.N.lo≤d∧d<C.N.n):Inv C S ι un (f.put dst v) (a.put dst v') w:=by
 cases dst with
 |none=>exact h
 |some d=>
  have hd:=hd d rfl
  refine⟨fun t=>?_,?_,⟨h.df.1,fun t ht=>?_,h.df.2.2⟩,h.ob,h.own,h.inj,h.sb,h.sn,h.un,h.fr,h.fo,h.gv,h.s0,h.hj⟩
  ·by_cases ht:t=d
   ·subst ht
    have e:(a.tmps.setIfInBounds t v').getD t undef=v':=by
     simp only[YU]
     rw[Array.getElem?_setIfInBounds_self_of_lt (by rw[h.sz];exact hd.2)]
     rfl
    simp only[FS.put,Yh,Act.put]
    grind
   ·simp only[FS.put,Act.put,if_neg ht]
    have e:(a.tmps.setIfInBounds d v').getD t undef=a.tmps.getD t undef:=by
     simp only[YU]
     rw[Ww (fun e=>ht e.symm)]
    rw[e];exact h.tm t
  ·simp[Act.put,h.sz]
  ·have:=h.df.2.1 t ht
   simp only[Act.put,YU]at this⊢
   grind
theorem Inv.turn{S S':Nat→Prop}{ι ι':Imap}{un un':Nat→Prop}{f:FS}{a:Act}{w w':World}{os':Nat→Option AO}
 (h:Inv C S ι un f a w) (hs:∀b,S b→S' b) (hw:ZbH S w w') (hι:ι.le ι')
 (ob:∀o x,os' o=some x→ObjOk S' w' ι' o x)
 (own:∀o x,os' o=some x→x.live=true→∀l,ι' o=some (some l)→∀b,foot w' x l b→C.Ow b∧¬S' b∧b<w'.heap.size)
 (inj:∀o o' x x',os' o=some x→os' o'=some x'→x.live=true→x'.live=true→
  ∀l l',ι' o=some (some l)→ι' o'=some (some l')→∀b,foot w' x l b→foot w' x' l' b→o=o')
 (sb:∀b,S' b→b<w'.heap.size) (sn:∀b,S' b→C.S0 b∨C.Ow b) (hun:∀o,un' o→ι' o=none) (fr:Fr C.Ow C.w0 w'):
 Inv C S' ι' un' {f with os:=os'} a w':=
 ⟨fun t=>(h.tm t).mono hs hw hι,h.sz,⟨h.df.1,h.df.2.1,fun q hq=>⟨hs _ (h.df.2.2 q hq).1,(hw _ (h.df.2.2 q hq).1).trans (h.df.2.2 q hq).2⟩⟩,ob,own,inj,sb,sn,hun,fr,h.fo,fun g row hg=>(h.gv g row hg).mono hs hw,fun b hb=>hs b (h.s0 b hb),fun j L e=>hι _ _ (h.hj j L e)⟩
theorem Inv.less{S:Nat→Prop}{ι:Imap}{un un':Nat→Prop}{f:FS}{a:Act}{w:World}(h:Inv C S ι un f a w)(hu:∀o,un' o→un o):
 Inv C S ι un' f a w:=
 ⟨h.tm,h.sz,h.df,h.ob,h.own,h.inj,h.sb,h.sn,fun o ho=>h.un o (hu o ho),h.fr,h.fo,h.gv,h.s0,h.hj⟩
theorem Inv.drew{S:Nat→Prop}{ι:Imap}{un:Nat→Prop}{f:FS}{a:Act}{w:World}(h:Inv C S ι un f a w):
 Inv C S ι un f a w.drew:=by
 have hw:ZbH S w w.drew:=fun _ _=>rfl
 refine⟨fun t=>(h.tm t).mono (fun _ x=>x) hw (Imap.le_refl _),h.sz,h.df,fun o x hx=>(h.ob o x hx).mono (fun _ x=>x) hw (Imap.le_refl _) (fun _ _ _ _ _=>rfl),
  fun o x hx hl l e b hb=>h.own o x hx hl l e b (Zao (w:=w) (w':=w.drew) (fun _ _=>rfl) hb),fun o o' x x' hx hx' hl hl' l l' e e' b hb hb'=>h.inj o o' x x' hx hx' hl hl' l l' e e' b (Zao (w:=w) (w':=w.drew) (fun _ _=>rfl) hb) (Zao (w:=w) (w':=w.drew) (fun _ _=>rfl) hb'),h.sb,h.sn,h.un,⟨h.fr.os,h.fr.output,h.fr.size,h.fr.old⟩,h.fo,fun g row hg=>(h.gv g row hg).mono (fun _ x=>x) hw,h.s0,h.hj⟩
theorem Inv.alloc{S:Nat→Prop}{ι:Imap}{un:Nat→Prop}{f:FS}{a:Act}{w:World}(h:Inv C S ι un f a w)
 {id:Nat} (hid:un id) (blk:Obj) (l:Loc) (hl:l.blk=w.heap.size) (x:AO) (_hx:x.live=true) (h1b:∀b,foot (w.alloc blk) x l b→b=l.blk)
 (hok:∀ι':Imap,ι.le ι'→ι' id=some (some l)→ObjOk S (w.alloc blk) ι' id x):
 ∃ι',ι.le ι'∧ι' id=some (some l)∧Inv C S ι' (fun o=>un o∧o≠id) {f with os:=updO f.os [(id,some x)]} a (w.alloc blk):=by
 have hnone:=h.un id hid
 refine⟨fun o=>if o=id then some (some l)else ι o,?_,by simp,?_⟩
 ·intro o y hy
  grind
 ·have hι:ι.le (fun o=>if o=id then some (some l)else ι o):=by
   intro o y hy
   by_cases e:o=id
   ·simp_all
   ·grind
  have hw:∀b,b<w.heap.size→(w.alloc blk).heap[b]? =w.heap[b]? :=fun b hb=>Zem w blk b hb
  have hlt:∀o x,f.os o=some x→o≠id:=by
   intro o x hx e;subst e
   have:=h.ob o x hx
   cases x with
   |rows p rs=>rcases this with ⟨q,_⟩|⟨l,vals,q,_⟩<;>(simp_all)
   |froz rs=>rcases this with ⟨q,_⟩|⟨l,vals,q,_⟩<;>(simp_all)
   |mapo p es=>obtain⟨l,xs,c,q,_⟩:=this;simp_all
   |fmap z fs hh=>obtain⟨l,xs,c,q,_⟩:=this;simp_all
   |gmap es hh=>obtain⟨l,xs,c,q,_⟩:=this;simp_all
   |lit rs=>obtain⟨l,vals,q,_⟩:=this;simp_all
  refine h.turn (fun _ x=>x) (fun b hb=>hw b (h.sb b hb)) hι ?_ ?_ ?_ (fun b hb=>?_) h.sn (fun o ho=>?_) ?_
  ·intro o y hy
   simp only[updO]at hy
   by_cases e:o=id
   ·simp_all
   ·simp only[e,Y9]at hy
    refine(h.ob o y hy).mono (fun _ x=>x) (fun b hb=>hw b (h.sb b hb)) hι (fun l' hl' hy' b hb=>hw _ (h.own o y hy hy' l' hl' b hb).2.2)
  ·intro o y hy hly l' hl' b hb
   simp only[updO]at hy
   by_cases e:o=id
   ·subst e
    simp only[Yh,Y1]at hl';subst hl';simp only[Yh,Y1]at hy;subst hy
    obtain rfl:b=w.heap.size:=(h1b _ hb).trans hl
    refine⟨?_,fun hS=>?_,by simp⟩
    ·exact h.fo _ h.fr.size
    ·have:=h.sb _ hS;omega
   ·simp only[e,Y9]at hy hl'
    have:=h.own o y hy hly l' hl' b (Zao (fun b hb=>hw b (h.own o y hy hly l' hl' b hb).2.2) hb)
    grind
  ·intro o o' y y' hy hy' hl1 hl2 l1 l2 e1 e2 b hb hb2
   simp only[updO]at hy hy'
   by_cases e:o=id<;>by_cases e':o'=id
   ·rw[e,e']
   ·subst e
    simp only[Yh,Y1]at e1;simp only[e',Y9]at hy' e2
    have:=(h.own o' y' hy' hl2 l2 e2 b (Zao (fun b hb=>hw b (h.own o' y' hy' hl2 l2 e2 b hb).2.2) hb2)).2.2
    grind
   ·subst e'
    simp only[Yh,Y1]at e2;simp only[e,Y9]at hy e1
    have:=(h.own o y hy hl1 l1 e1 b (Zao (fun b hb=>hw b (h.own o y hy hl1 l1 e1 b hb).2.2) hb)).2.2
    grind
   ·simp only[e,e',Y9]at hy hy' e1 e2
    exact h.inj o o' y y' hy hy' hl1 hl2 l1 l2 e1 e2 b (Zao (fun b hb=>hw b (h.own o y hy hl1 l1 e1 b hb).2.2) hb) (Zao (fun b hb=>hw b (h.own o' y' hy' hl2 l2 e2 b hb).2.2) hb2)
  ·have:=h.sb b hb;grind
  ·simp only[ho.2,Y9];exact h.un o ho.1
  ·exact⟨h.fr.os,h.fr.output,by simp only[WW];have:=h.fr.size;omega,fun b hb hn=>by
    rw[hw b (by have:=h.fr.size;omega)];exact h.fr.old b hb hn⟩
end
def SameC(S:Nat→Prop)(w w':World):Prop:=∀b,S b→∀j,Zbo w' b j=Zbo w b j
theorem IRep.monoC{S:Nat→Prop}{w w':World}(hw:SameC S w w'){x:AV}{v:Value}
 (h:IRep S w x v):IRep S w' x v:=by
 induction h with
 |int k n=>exact .int k n
 |bool b=>exact .bool b
 |str s=>exact .str s
 |esl a=>exact .esl a
 |snil=>exact .snil
 |sl xs a cap sz vals hcap hlim hS hlen hcell _ ih=>
  refine .sl xs a cap sz vals hcap hlim hS hlen (fun i j v hi hv=>?_) (fun i j r x v h1 h2 h3=>ih i j r x v h1 h2 h3)
  have hn:xs≠[]:=by intro e;subst e;simp at hi
  rw[hw _ (hS hn).1]
  grind
 |agg cs vs hl _ ih=>exact .agg cs vs hl ih
 |tup cs vs hl _ ih=>exact .tup cs vs hl ih
 |rp row off blk base vals hS hl hcell _ ih=>
  refine .rp row off blk base vals hS hl (fun j v hv=>?_) ih
  rw[hw _ hS]
  grind
 |fn f cap vs hl _ ih=>exact .fn f cap vs hl ih
 |con v h=>exact .con v h
 |undef v=>exact .undef v
 |anyb p b h=>exact .anyb p b h
theorem Rep.monoC{S:Nat→Prop}{w w':World}{ι:Imap}(hw:SameC S w w'){x:AV}{v:Value}(h:Rep S w ι x v):Rep S w' ι x v:=by
 induction h with
 |imm x v h=>exact .imm x v (h.monoC hw)
 |agg cs vs hl _ ih=>exact .agg cs vs hl ih
 |tup cs vs hl _ ih=>exact .tup cs vs hl ih
 |fn f cap vs hl _ ih=>exact .fn f cap vs hl ih
 |ptr o r c l h=>exact .ptr o r c l h
 |osl o off len room cap a l h h1 h2 h3 h4 h5 ha=>exact .osl o off len room cap a l h h1 h2 h3 h4 h5 ha
 |osw o z cap a l h h2 h3 h4 hz ha=>exact .osw o z cap a l h h2 h3 h4 hz ha
 |oswv o z a h=>exact .oswv o z a h
 |oslv o a h=>exact .oslv o a h
 |mapo o l h=>exact .mapo o l h
theorem Zcy.monoC{p:Bool}{S:Nat→Prop}{w w':World}{ι:Imap}(hw:SameC S w w'){rs:List (List AV)}{vals:Nat→List Value}(h:Zcy p S w ι rs vals):
 Zcy p S w' ι rs vals:=by
 intro i r hr
 have:=h i r hr
 cases p
 ·simp only[Yr,Y9]at this⊢;exact⟨this.1,fun j x v a b=>(this.2 j x v a b).monoC hw⟩
 ·simp only[Yh]at this⊢;exact⟨this.1,fun j x v a b=>(this.2 j x v a b).monoC hw⟩
def isG:AO→Bool
 |.gmap .. =>true
 |_=>false
theorem ObjOk.monoC0{S:Nat→Prop}{w w':World}{ι:Imap}{o:Nat}{x:AO}(hx:isG x=false)(hw:SameC S w w')
 (hb:∀l,ι o=some (some l)→x.live=true→∀b,foot w x l b→w'.heap[b]? =w.heap[b]?) (h:ObjOk S w ι o x):ObjOk S w' ι o x:=by
 cases x with
 |rows p rs=>
  rcases h with ⟨h,rfl⟩|⟨l,vals,h1,hc,h2,h3,h4⟩
  ·exact .inl ⟨h,rfl⟩
  ·have e:=hb l h1 rfl _ (.inl rfl)
   refine .inr ⟨l,vals,h1,hc,fun j=>?_,⟨h3.1,h3.2.1,fun i j v hi hv=>?_⟩,h4.monoC hw⟩
   ·rw[ZbU e,Zgj e];exact h2 j
   ·rw[ZbU e];exact h3.2.2 i j v hi hv
 |froz rs=>
  rcases h with ⟨h,rfl⟩|⟨l,vals,h1,hc,h2,h3,h4⟩
  ·exact .inl ⟨h,rfl⟩
  ·refine .inr ⟨l,vals,h1,hc,h2,⟨h3.1,h3.2.1,fun i j v hi hv=>?_⟩,h4.monoC hw⟩
   rw[hw _ h2];exact h3.2.2 i j v hi hv
 |mapo p es=>
  obtain⟨l,xs,clock,h1,h2,h3,h4⟩:=h
  refine⟨l,xs,clock,h1,by rw[hb l h1 rfl _ (.inl rfl)];exact h2,⟨h3.1,fun i e x a b=>?_⟩,h4⟩
  exact⟨(h3.2 i e x a b).1.monoC hw,(h3.2 i e x a b).2.1.monoC hw,fun hp=>((h3.2 i e x a b).2.2 hp).monoC hw⟩
 |lit rs=>
  obtain⟨l,vals,h1,⟨c,e',h2,h3⟩,h4,h5,h6,h7,h8⟩:=h
  have e:=hb l h1 rfl _ (.inl rfl)
  exact⟨l,vals,h1,⟨c,e',by simp_all,h3⟩,h4,h5,h6,⟨h7.1,h7.2.1,fun i j v hi hv=>by rw[ZbU e];exact h7.2.2 i j v hi hv⟩,h8.monoC hw⟩
 |gmap es hh=>cases hx
 |fmap z fs hh=>
  obtain⟨l,xs,clock,h1,h2,h3,h4⟩:=h
  refine⟨l,xs,clock,h1,by rw[hb l h1 rfl _ (.inl rfl)];exact h2,h3,h4.1,fun i e x he hx=>?_,h4.2.2⟩
  obtain⟨g1,g2,g3⟩:=h4.2.1 i e x he hx
  refine⟨g1.monoC hw,fun hn=>?_,fun q hq=>(g3 q hq).monoC hw⟩
  rcases g2 hn with h|⟨l2,k1,k0,k2,vals,k3,k4,k5,k6⟩
  ·exact .inl h
  ·have e:=hb l h1 rfl _ (.inr ⟨xs,clock,i,x,h2,hx,hn,k1⟩)
   refine .inr ⟨l2,k1,k0,k2.monoC hw,vals,k3,fun j=>?_,⟨k5.1,k5.2.1,fun i j v hi hv=>?_⟩,fun i r hr=>?_⟩
   ·rw[ZbU e,Zgj e];exact k4 j
   ·rw[ZbU e];exact k5.2.2 i j v hi hv
   ·have:=k6 i r hr
    simp only[Yh]at this⊢;exact⟨this.1,fun j x v a b=>(this.2 j x v a b).monoC hw⟩
theorem Zjv.monoC{S:Nat→Prop}{w w':World}{ι:Imap}{o:Nat}{g:GO}(hw:SameC S w w')
 (hb:∀l,ι o=some (some l)→∀b,footG w l.blk g b→w'.heap[b]? =w.heap[b]?) (h:Zjv S w ι o g):Zjv S w' ι o g:=
 Zks.2 ((Zks.1 h).monoC0 (by cases g<;>rfl) hw (fun l hl _ b hf=>hb l hl b (Zlz.2 hf)))
theorem Zhg.monoC{S:Nat→Prop}{w w':World}(hw:SameC S w w'){gs:Gr}{v:Value}{ιg:Imap}
 (hb:∀b,gfoot w gs v b→w'.heap[b]? =w.heap[b]?) (h:Zhg S w gs v ιg):Zhg S w' gs v ιg:=by
 refine⟨h.root.monoC hw,fun k p g hk=>⟨?_,?_⟩,fun k k' p p' g g' hk hk' l l' hl hl' b b1 b2=>?_,h.ways,h.top⟩
 ·exact(h.ob k p g hk).1.monoC hw (fun l hl b hf=>hb b (h.blk hk hl hf))
 ·rw[ZhY hb (YA hk) (r:=[]) rfl];exact(h.ob k p g hk).2
 ·rw[Zf2 (hb _ (h.blk hk hl (ZgK _ _ _)))]at b1
  rw[Zf2 (hb _ (h.blk hk' hl' (ZgK _ _ _)))]at b2;exact h.inj k k' p p' g g' hk hk' l l' hl hl' b b1 b2
theorem ObjOk.monoC{S:Nat→Prop}{w w':World}{ι:Imap}{o:Nat}{x:AO}(hw:SameC S w w')
 (hb:∀l,ι o=some (some l)→x.live=true→∀b,foot w x l b→w'.heap[b]? =w.heap[b]?) (h:ObjOk S w ι o x):ObjOk S w' ι o x:=by
 cases hx:isG x with
 |false=>exact h.monoC0 hx hw hb
 |true=>
  cases x with
  |gmap es hh=>
   obtain⟨l,xs,clock,h1,h2,h3,hF⟩:=h
   have hbb:∀(i:Nat) e x b,es[i]? =some e→xs[i]? =some x→hh.map (·.1)≠some i→gfoot w e.2 x.val b→w'.heap[b]? =w.heap[b]? :=fun i e x b he hx hn hf=>hb l h1 rfl b (.inr ⟨xs,clock,i,e,x,h2,he,hx,hn,hf⟩)
   have sm:∀(i:Nat) e x,es[i]? =some e→xs[i]? =some x→hh.map (·.1)≠some i→∀b,gfoot w' e.2 x.val b↔gfoot w e.2 x.val b:=fun i e x h1 h2 h3 b=>ZgJ (fun b h4=>hbb i e x b h1 h2 h3 h4)
   refine⟨l,xs,clock,h1,by rw[hb l h1 rfl _ (.inl rfl)];exact h2,h3,hF.len,fun i e x he hx=>?_,fun i j e e' x x' b he he' hx hx' hn hn' h1 h2=>?_⟩
   ·obtain⟨h1,h2,h3⟩:=hF.at_ i e x he hx
    refine⟨h1.monoC hw,fun hn=>?_,fun q hq=>(h3 q hq).monoC hw⟩
    obtain⟨⟨ιg,hg⟩,h4⟩:=h2 hn
    exact⟨⟨ιg,hg.monoC hw (fun b hf=>hbb i e x b he hx hn hf)⟩,fun b hf=>h4 b ((sm i e x he hx hn b).1 hf)⟩
   ·exact hF.inj i j e e' x x' b he he' hx hx' hn hn' ((sm i e x he hx hn b).1 h1) ((sm j e' x' he' hx' hn' b).1 h2)
  |_=>cases hx
def ZjY:Obj→Bool
 |.deferred _=>true
 |.loop _=>true
 |_=>false
theorem Zk5{w:World}{b j:Nat}{o:Obj}(h:w.heap[b]? =some o)(ho:ZjY o=true):Zbo w b j=none:=by
 simp only[Zbo,World.cell?,h]
 cases o<;>first|rfl|(simp[ZjY]at ho)
theorem Zn8{S:Nat→Prop}{w:World}{D:Nat}{o o':Obj}(h:w.heap[D]? =some o)(ho:ZjY o=true)(ho':ZjY o'=true):SameC S w (w.putObj D o'):=by
 intro b _ j
 by_cases e:b=D
 ·subst e
  rw[Zk5 h ho,Zk5 (Vh (Wm.1 h).1) ho']
 ·exact ZbU (Wi e)
def Cx.with(C:Cx)(dfs:List Deferred)(qb:List (Nat×Obj)):Cx:={C with dfs:=dfs,qb:=qb}
def mark(D:Nat):Deferred:={target:=.collected D,args:=#[]}
def Cx.ranged(C:Cx)(D:Nat):Cx:={C with N:={C.N with no:=true},dfs:=[mark D],qb:=[(D,.deferred (some []))]}
inductive Cx.to(C:Cx):Cx→Prop
 |refl:C.to C
 |ranged (D:Nat) (h:C.N.no=false) (hO:C.Ow D):C.to (C.ranged D)
theorem Inv.poke{C:Cx}{S:Nat→Prop}{ι:Imap}{un:Nat→Prop}{f:FS}{a a':Act}{w:World}(h:Inv C S ι un f a w){D:Nat}{o o':Obj}{dfs:List Deferred}{qb:List (Nat×Obj)}
 (hS:S D) (hO:C.Ow D) (hD:w.heap[D]? =some o) (ho:ZjY o=true) (ho':ZjY o'=true) (ht:a'.tmps=a.tmps) (hdf:a'.defers=dfs)
 (hq:∀q,q∈qb→S q.1∧(w.putObj D o').heap[q.1]? =some q.2):Inv (C.with dfs qb) S ι un f a' (w.putObj D o'):=by
 have hw:SameC S w (w.putObj D o'):=Zn8 hD ho ho'
 have hoth:∀o x,f.os o=some x→x.live=true→∀l,ι o=some (some l)→∀b,foot w x l b→(w.putObj D o').heap[b]? =w.heap[b]? :=fun o x hx hlv l hl b hb=>
  Wi (fun e=>(h.own o x hx hlv l hl b hb).2.1 (e▸hS))
 refine⟨fun t=>by rw[ht];exact(h.tm t).monoC hw,by rw[ht];exact h.sz,⟨hdf,fun t hlt=>by rw[ht];exact h.df.2.1 t hlt,hq⟩,fun o x hx=>(h.ob o x hx).monoC hw (fun l hl hlv b hb=>?_),
  fun o x hx hlv l hl b hb=>?_,fun o o' x x' hx hx' h1 h2 l l' e1 e2 b b1 b2=>h.inj o o' x x' hx hx' h1 h2 l l' e1 e2 b (Zao (hoth o x hx h1 l e1) b1) (Zao (hoth o' x' hx' h2 l' e2) b2),fun b hb=>by rw[World.putObj_size];exact h.sb b hb,h.sn,h.un,⟨h.fr.os,h.fr.output,by rw[World.putObj_size];exact h.fr.size,fun b hb hn=>?_⟩,h.fo,
  fun g row hg=>⟨(h.gv g row hg).1.monoC hw,by
   obtain⟨cs,t,fr,e,es⟩:=(h.gv g row hg).2
   refine⟨cs,t,fr,(Wi (fun eb=>?_)).trans e,es⟩
   subst eb
   rw[hD]at e;injection e with e;subst e;simp[ZjY]at ho⟩,h.s0,h.hj⟩
 ·grind
 ·rw[World.putObj_size];exact h.own o x hx hlv l hl b (Zao (hoth o x hx hlv l hl) hb)
 ·rw[Wi (fun e=>hn (by subst e;exact hO))];exact h.fr.old b hb hn
theorem Inv.lay{C:Cx}{S:Nat→Prop}{ι:Imap}{un:Nat→Prop}{f:FS}{a a':Act}{w:World}(h:Inv C S ι un f a w)(o:Obj){dfs:List Deferred}{qb:List (Nat×Obj)}
 (ht:a'.tmps=a.tmps) (hdf:a'.defers=dfs) (hq:∀q,q∈qb→(S q.1∨q.1=w.heap.size)∧(w.alloc o).heap[q.1]? =some q.2):
 Inv (C.with dfs qb) (fun b=>S b∨b=w.heap.size) ι un f a' (w.alloc o):=by
 have hw:ZbH S w (w.alloc o):=fun b hb=>Zem w o b (h.sb b hb)
 have hs:∀b,S b→(S b∨b=w.heap.size):=fun b hb=>.inl hb
 have hoth:∀o' x,f.os o'=some x→x.live=true→∀l,ι o'=some (some l)→∀b,foot w x l b→(w.alloc o).heap[b]? =w.heap[b]? :=fun o' x hx hlv l hl b hb=>
  Zem w o b (h.own o' x hx hlv l hl b hb).2.2
 refine⟨fun t=>by rw[ht];exact(h.tm t).mono hs hw (Imap.le_refl _),by rw[ht];exact h.sz,⟨hdf,fun t hlt=>by rw[ht];exact h.df.2.1 t hlt,hq⟩,
  fun o x hx=>(h.ob o x hx).mono hs hw (Imap.le_refl _) (fun l hl hlv b hb=>Zem w _ b (h.own o x hx hlv l hl b hb).2.2),
  fun o x hx hlv l hl b hb=>?_,fun o o' x x' hx hx' h1 h2 l l' e1 e2 b b1 b2=>h.inj o o' x x' hx hx' h1 h2 l l' e1 e2 b (Zao (hoth o x hx h1 l e1) b1) (Zao (hoth o' x' hx' h2 l' e2) b2),fun b hb=>?_,fun b hb=>?_,h.un,⟨h.fr.os,h.fr.output,?_,fun b hb hn=>?_⟩,h.fo,
  fun g row hg=>(h.gv g row hg).mono hs hw,fun b hb=>.inl (h.s0 b hb),h.hj⟩
 ·have:=h.own o x hx hlv l hl b (Zao (hoth o x hx hlv l hl) hb)
  refine⟨this.1,fun hS=>?_,by rw[WW];omega⟩
  simp_all
 ·rw[WW]
  rcases hb with hb|hb
  ·have:=h.sb b hb;omega
  ·omega
 ·rcases hb with hb|hb
  ·exact h.sn b hb
  ·exact .inr (hb▸h.fo _ h.fr.size)
 ·rw[WW];have:=h.fr.size;exact Nat.le_succ_of_le this
 ·rw[Zem w o b (Wp hb h.fr.size)];exact h.fr.old b hb hn
def Zb8:AV→Bool
 |.int .. |.bool _|.str _|.esl|.sl _|.rp .. |.con _|.undef|.anyb _=>true
 |.fn _ c=>c.isEmpty
 |_=>false
theorem Rep.free{S:Nat→Prop}{w:World}{ι:Imap}{x:AV}{v:Value}(h:Rep S w ι x v)(hf:Zb8 x=true):IRep S w x v:=by
 cases h with
 |imm _ _ h=>exact h
 |fn f cap vs hl h=>
  simp only[Zb8,List.isEmpty_iff]at hf;subst hf
  exact .fn f [] vs hl (fun j x v hx=>by simp at hx)
 |_=>simp[Zb8]at hf
theorem RepL.free{S:Nat→Prop}{w:World}{ι:Imap}{cs:List AV}{vs:List Value}(h:RepL S w ι cs vs)(hf:cs.all Zb8=true):IRepL S w cs vs:=
 ⟨h.1,fun j x v hx hv=>(h.2 j x v hx hv).free (YF.1 hf x (YA hx))⟩
def ZhK:AV→Bool
 |.agg cs=>cs.all Zb8
 |x=>Zb8 x
theorem Rep.freeV{S:Nat→Prop}{w:World}{ι:Imap}{x:AV}{v:Value}(h:Rep S w ι x v)(hf:ZhK x=true):IRep S w x v:=by
 cases x with
 |agg cs=>
  obtain⟨vs,rfl,hL⟩:=h.agg_inv
  have:=hL.free hf
  exact .agg _ _ (by simpa using this.1) (fun j x v hx hv=>this.2 j x v hx (by simp_all))
 |_=>exact h.free hf
def setAt{α:Type}(row:List α)(c:Nat)(xs:List α):List α:=row.take c++(xs++row.drop (c+xs.length))
theorem Zc8{α:Type}(row:List α)(c:Nat)(xs:List α)(h:c+xs.length≤row.length):(setAt row c xs).length=row.length:=by
 simp[setAt];omega
theorem Zf9{α:Type}(row:List α)(c:Nat)(xs:List α)(h:c+xs.length≤row.length)(j:Nat):
 (setAt row c xs)[j]? =if c≤j∧j<c+xs.length then xs[j-c]? else row[j]? :=by
 unfold setAt
 grind
theorem RepL.setAt{S:Nat→Prop}{w:World}{ι:Imap}{row cs:List AV}{us vs:List Value}(c:Nat)(h:RepL S w ι row us)(hc:RepL S w ι cs vs)
 (hlen:c+cs.length≤row.length):RepL S w ι (setAt row c cs) (Ab.setAt us c vs):=by
 have h1:=h.1;have h2:=hc.1
 refine⟨by rw[Zc8 _ _ _ hlen,Zc8 _ _ _ (by omega)];exact h1,fun j x v hx hv=>?_⟩
 rw[Zf9 _ _ _ hlen]at hx
 rw[Zf9 _ _ _ (by omega),←h2]at hv
 split at hx
 ·rename_i hj
  rw[if_pos hj]at hv;exact hc.2 _ x v hx hv
 ·rename_i hj
  rw[if_neg hj]at hv;exact h.2 j x v hx hv
theorem IRepL.setAt{S:Nat→Prop}{w:World}{row cs:List AV}{us vs:List Value}(c:Nat)(h:IRepL S w row us)(hc:IRepL S w cs vs)
 (hlen:c+cs.length≤row.length):IRepL S w (Ab.setAt row c cs) (Ab.setAt us c vs):=by
 have h1:=h.1;have h2:=hc.1
 refine⟨by rw[Zc8 _ _ _ hlen,Zc8 _ _ _ (by omega)];exact h1,fun j x v hx hv=>?_⟩
 rw[Zf9 _ _ _ hlen]at hx
 rw[Zf9 _ _ _ (by omega),←h2]at hv
 split at hx
 ·rename_i hj
  rw[if_pos hj]at hv;exact hc.2 _ x v hx hv
 ·rename_i hj
  rw[if_neg hj]at hv;exact h.2 j x v hx hv
theorem Zpa{k i e j c n:Nat}(hk:k≠i)(hj:j<e)(hc:c+n≤e):k*e+j<i*e+c∨i*e+c+n≤k*e+j:=by
 rcases Nat.lt_or_gt_of_ne hk with h|h
 ·left
  have:(k+1)*e≤i*e:=Yo e h
  grind
 ·right
  have:(i+1)*e≤k*e:=Yo e h
  grind
theorem Mine.setCells{w:World}{l:Loc}(h:Mine w l)(lo:Nat)(vs:List Value):Mine (w.setCells l.blk lo vs) l:=by
 intro j
 refine⟨fun hj=>?_,by rw[World.frozen?_setCells];exact(h j).2⟩
 obtain⟨v,hv⟩:=(h j).1 hj
 exact YQ.1 (World.isSome_setCells l.blk vs lo w ⟨l.blk,j,none⟩ (by simp_all))
section
variable {C:Cx}{S:Nat→Prop}{ι:Imap}{un:Nat→Prop}{f:FS}{a:Act}{w:World}
theorem ZhB{b:Nat}(hS:¬S b)(sb:∀b,S b→b<w.heap.size)(lo:Nat)(vs:List Value):ZbH S w (w.setCells b lo vs):=by
 intro c hc
 exact Wu w b lo vs (sb c hc) (fun e=>hS (e▸hc))
theorem Zew(w:World)(b:Nat):∀(vs:List Value) (lo:Nat),(w.setCells b lo vs).heap.size=w.heap.size:=by
 intro vs
 induction vs generalizing w with
 |nil=>intro lo;rfl
 |cons v r ih=>intro lo;rw[World.setCells,ih];simp
theorem Inv.writes(h:Inv C S ι un f a w){o:Nat}{x x':AO}(hx:f.os o=some x)(hlive:x.live=true){l:Loc}(hl:ι o=some (some l))
 (_hlive':x'.live=true) (lo:Nat) (vs:List Value)
 (hok:ZbH S w (w.setCells l.blk lo vs)→ObjOk S (w.setCells l.blk lo vs) ι o x') (h1b:ZjZ x'=true:=by rfl):
 Inv C S ι un {f with os:=updO f.os [(o,some x')]} a (w.setCells l.blk lo vs):=by
 obtain⟨hO,hS,hlt⟩:=h.own o x hx hlive l hl _ (.inl rfl)
 have hw:ZbH S w (w.setCells l.blk lo vs):=ZhB hS h.sb lo vs
 have hoth:∀o' y,f.os o'=some y→y.live=true→o'≠o→∀l',ι o'=some (some l')→∀b,foot w y l' b→(w.setCells l.blk lo vs).heap[b]? =w.heap[b]? :=fun o' y hy hly e l' hl' b hb=>
  Wu w _ lo vs (h.own o' y hy hly l' hl' b hb).2.2 (fun eb=>e (h.inj o' o y x hy hx hly hlive l' l hl' hl b hb (.inl eb)))
 refine h.turn (fun _ x=>x) hw (Imap.le_refl _) ?_ ?_ ?_ (fun b hb=>by rw[Zew];exact h.sb b hb) h.sn h.un ?_
 ·intro o' y hy
  simp only[updO]at hy
  by_cases e:o'=o
  ·simp_all
  ·simp only[e,Y9]at hy
   refine(h.ob o' y hy).mono (fun _ x=>x) hw (Imap.le_refl _) (fun l' hl' hy' b hb=>?_)
   grind
 ·intro o' y hy hly l' hl' b hb
  rw[Zew];simp only[updO]at hy
  by_cases e:o'=o
  ·subst e
   rw[hl]at hl'
   injection hl' with hl';injection hl' with hl';subst hl'
   simp only[Yh,Y1]at hy;subst hy;rw[Za7 h1b hb];simp_all
  ·simp only[e,Y9]at hy
   exact h.own o' y hy hly l' hl' b (Zao (hoth o' y hy hly e l' hl') hb)
 ·intro o1 o2 y1 y2 hy1 hy2 hl1 hl2 l1 l2 e1 e2 b hb hb2
  simp only[updO]at hy1 hy2
  by_cases e:o1=o<;>by_cases e':o2=o
  ·rw[e,e']
  ·subst e
   simp only[e',Y9]at hy2;simp only[Yh,Y1]at hy1;subst hy1
   rw[hl]at e1;injection e1 with e1;injection e1 with e1;subst e1
   exact h.inj o1 o2 x y2 hx hy2 hlive hl2 l l2 hl e2 b (.inl (Za7 h1b hb)) (Zao (hoth o2 y2 hy2 hl2 e' l2 e2) hb2)
  ·subst e'
   simp only[e,Y9]at hy1;simp only[Yh,Y1]at hy2;subst hy2
   rw[hl]at e2;injection e2 with e2;injection e2 with e2;subst e2
   exact h.inj o1 o2 y1 x hy1 hx hl1 hlive l1 l e1 hl b (Zao (hoth o1 y1 hy1 hl1 e l1 e1) hb) (.inl (Za7 h1b hb2))
  ·simp only[e,e',Y9]at hy1 hy2
   exact h.inj o1 o2 y1 y2 hy1 hy2 hl1 hl2 l1 l2 e1 e2 b (Zao (hoth o1 y1 hy1 hl1 e l1 e1) hb) (Zao (hoth o2 y2 hy2 hl2 e' l2 e2) hb2)
 ·refine⟨by rw[World.os_setCells];exact h.fr.os,by rw[World.output_setCells];exact h.fr.output,by rw[Zew];exact h.fr.size,fun b hb hn=>?_⟩
  rw[Wu w _ lo vs (by have:=h.fr.size;omega) (fun e=>hn (by simp_all))]
  exact h.fr.old b hb hn
theorem Inv.changes{w':World}(h:Inv C S ι un f a w){o:Nat}{x x':AO}(hx:f.os o=some x)(hlive:x.live=true){l:Loc}(hl:ι o=some (some l))
 (_hlive':x'.live=true) (hos:w'.os=w.os) (hout:w'.output=w.output) (hsize:w'.heap.size=w.heap.size) (hot:∀b,b≠l.blk→w'.heap[b]? =w.heap[b]?)
 (hok:ZbH S w w'→ObjOk S w' ι o x') (h1b:ZjZ x'=true:=by rfl):
 Inv C S ι un {f with os:=updO f.os [(o,some x')]} a w':=by
 obtain⟨hO,hS,hlt⟩:=h.own o x hx hlive l hl _ (.inl rfl)
 have hw:ZbH S w w':=fun b hb=>hot b (fun e=>hS (e▸hb))
 have hoth:∀o' y,f.os o'=some y→y.live=true→o'≠o→∀l',ι o'=some (some l')→∀b,foot w y l' b→w'.heap[b]? =w.heap[b]? :=fun o' y hy hly e l' hl' b hb=>
  hot b (fun eb=>e (h.inj o' o y x hy hx hly hlive l' l hl' hl b hb (.inl eb)))
 refine h.turn (fun _ x=>x) hw (Imap.le_refl _) ?_ ?_ ?_ (fun b hb=>by rw[hsize];exact h.sb b hb) h.sn h.un ?_
 ·intro o' y hy
  simp only[updO]at hy
  by_cases e:o'=o
  ·simp_all
  ·simp only[e,Y9]at hy
   refine(h.ob o' y hy).mono (fun _ x=>x) hw (Imap.le_refl _) (fun l' hl' hy' b hb=>?_)
   grind
 ·intro o' y hy hly l' hl' b hb
  rw[hsize];simp only[updO]at hy
  by_cases e:o'=o
  ·subst e
   rw[hl]at hl'
   injection hl' with hl';injection hl' with hl';subst hl'
   simp only[Yh,Y1]at hy;subst hy;rw[Za7 h1b hb];simp_all
  ·simp only[e,Y9]at hy
   exact h.own o' y hy hly l' hl' b (Zao (hoth o' y hy hly e l' hl') hb)
 ·intro o1 o2 y1 y2 hy1 hy2 hl1 hl2 l1 l2 e1 e2 b hb hb2
  simp only[updO]at hy1 hy2
  by_cases e:o1=o<;>by_cases e':o2=o
  ·rw[e,e']
  ·subst e
   simp only[e',Y9]at hy2;simp only[Yh,Y1]at hy1;subst hy1
   rw[hl]at e1;injection e1 with e1;injection e1 with e1;subst e1
   exact h.inj o1 o2 x y2 hx hy2 hlive hl2 l l2 hl e2 b (.inl (Za7 h1b hb)) (Zao (hoth o2 y2 hy2 hl2 e' l2 e2) hb2)
  ·subst e'
   simp only[e,Y9]at hy1;simp only[Yh,Y1]at hy2;subst hy2
   rw[hl]at e2;injection e2 with e2;injection e2 with e2;subst e2
   exact h.inj o1 o2 y1 x hy1 hx hl1 hlive l1 l e1 hl b (Zao (hoth o1 y1 hy1 hl1 e l1 e1) hb) (.inl (Za7 h1b hb2))
  ·simp only[e,e',Y9]at hy1 hy2
   exact h.inj o1 o2 y1 y2 hy1 hy2 hl1 hl2 l1 l2 e1 e2 b (Zao (hoth o1 y1 hy1 hl1 e l1 e1) hb) (Zao (hoth o2 y2 hy2 hl2 e' l2 e2) hb2)
 ·refine⟨hos.trans h.fr.os,hout.trans h.fr.output,by rw[hsize];exact h.fr.size,fun b hb hn=>?_⟩
  rw[hot b (fun e=>hn (by simp_all))]
  exact h.fr.old b hb hn
theorem ZkK{o:Nat}{p:Bool}{rs:List (List AV)}{l:Loc}{vals:Nat→List Value}(hl:ι o=some (some l))(hcnt:rs.length=l.cnt)(hm:Mine w l)
 (hat:ZgS w l rs.length vals) (hrep:Zcy p S w ι rs vals) {i c:Nat} {row:List AV} (hrow:rs[i]? =some row) {cs:List AV} {vs:List Value}
 (hvs:RepL S w ι cs vs) (hone:∀v,v∈vs→v.oneCell'=true) (hc:c+cs.length≤row.length) (hw:ZbH S w (w.setCells l.blk (l.base+(i*l.esz+c)) vs)):
 ObjOk S (w.setCells l.blk (l.base+(i*l.esz+c)) vs) ι o (.rows (p&&cs.all Zb8) (rs.set i (setAt row c cs))):=by
 have hi:i<rs.length:=by
  rcases YX i rs.length with h|h
  ·exact h
  ·simp_all
 have hlr:row.length=(vals i).length:=by
  have:=hrep i row hrow
  cases p<;>exact this.1
 have hli:=hat.2.1 i hi
 have hlv:=hvs.1
 have hsz:l.base+(i*l.esz+c)+vs.length≤l.size:=by
  have:(i+1)*l.esz≤rs.length*l.esz:=Yo _ hi
  rw[YT]at this
  have:=hat.1
  omega
 have hset:∀(k:Nat) r,(rs.set i (setAt row c cs))[k]? =some r→(k=i∧r=setAt row c cs)∨(k≠i∧rs[k]? =some r):=by
  intro k r hr
  rw[List.getElem?_set]at hr
  by_cases e:i=k
  ·simp_all
  ·grind
 refine .inr ⟨l,fun k=>if k=i then setAt (vals i) c vs else vals k,hl,by simp_all,hm.setCells _ _,⟨by simpa using hat.1,fun k hk=>?_,fun k j v hk hv=>?_⟩,fun k r hr=>?_⟩
 ·simp only[List.length_set]at hk
  by_cases e:k=i
  ·subst e;simp only[Yh];rw[Zc8 _ _ _ (by omega)];exact hli
  ·simp only[e,Y9];exact hat.2.1 k hk
 ·simp only[List.length_set]at hk
  by_cases e:k=i
  ·subst e
   simp only[Yh]at hv
   rw[Zf9 _ _ _ (by omega)]at hv
   by_cases hj:c≤j∧j<c+vs.length
   ·rw[if_pos hj]at hv
    have hjl:j-c<vs.length:=by omega
    have:=Wy l.blk vs (l.base+(k*l.esz+c)) w (fun q hq=>by
     obtain⟨u,hu⟩:=(hm (l.base+(k*l.esz+c)+q)).1 (by omega)
     simp_all) (j-c) hjl
    grind
   ·rw[if_neg hj]at hv
    have h9:=hat.2.2 k j v hi hv
    refine⟨?_,h9.2⟩
    show(w.setCells l.blk (l.base+(k*l.esz+c)) vs).cell? _=some v
    rw[Wa l.blk vs _ w _ (fun _ _=>by grind)]
    exact h9.1
  ·simp only[e,Y9]at hv
   have hjl:j<l.esz:=by
    rw[←hat.2.1 k hk]
    rcases YX j (vals k).length with h|h
    ·exact h
    ·simp_all
   have h9:=hat.2.2 k j v hk hv
   refine⟨?_,h9.2⟩
   show(w.setCells l.blk (l.base+(i*l.esz+c)) vs).cell? _=some v
   have:=Zpa (n:=vs.length) (c:=c) e hjl (by omega)
   rw[Wa l.blk vs _ w _ (fun _ _=>by grind)]
   exact h9.1
 ·rcases hset k r hr with ⟨rfl,rfl⟩|⟨hne,hr⟩
  ·simp only[Yh]
   have hrw:=hrep k row hrow
   cases hp:p with
   |false=>
    rw[hp]at hrw;simp only[Bool.false_and,Yr,Y9]at hrw⊢
    exact(RepL.setAt c hrw hvs hc).mono (fun _ x=>x) hw (Imap.le_refl _)
   |true=>
    rw[hp]at hrw;simp only[Bool.true_and,Yh]at hrw⊢
    by_cases hf:cs.all Zb8=true
    ·rw[if_pos hf]
     exact(IRepL.setAt c hrw (hvs.free hf) hc).mono (fun _ x=>x) hw
    ·rw[if_neg hf]
     exact(RepL.setAt c hrw.rep hvs hc).mono (fun _ x=>x) hw (Imap.le_refl _)
  ·simp only[hne,Y9]
   have hrw:=hrep k r hr
   cases hp:p with
   |false=>
    rw[hp]at hrw;simp only[Bool.false_and,Yr,Y9]at hrw⊢
    exact hrw.mono (fun _ x=>x) hw (Imap.le_refl _)
   |true=>
    rw[hp]at hrw;simp only[Bool.true_and,Yh]at hrw⊢
    by_cases hf:cs.all Zb8=true
    ·rw[if_pos hf];exact hrw.mono (fun _ x=>x) hw
    ·rw[if_neg hf];exact hrw.rep.mono (fun _ x=>x) hw (Imap.le_refl _)
end
end Go.Ab
