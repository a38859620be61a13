import Derived.WalkKit
import Derived.RangeFuncRecord
import Derived.Deep.Upon
import Derived.Deep.MidRow
set_option linter.unusedVariables false
abbrev aa:=List Int
abbrev aj:=List UInt8
abbrev bL:=List Nat
namespace Go.Ab
set_option linter.defProp false
theorem Y1{α β:Type _}(a:α)(f:α→Option β):(some a).bind f=f a:=rfl
def Y2:=@decide_eq_true
def Y3:=@List.getElem?_eq_getElem
theorem Y4{α:Sort _}{a b:α}:cond true a b=a:=rfl
def Y5:=@Option.some.injEq
def Y6:=@Result.andThen_ok
theorem Y7{α:Sort _}{a b:α}:cond false a b=b:=rfl
def Y8:=@List.length_append
def Y9:=@List.length_take
def Ya:=@List.length_map
def Yb:=@run_underlying
def Yc:=@Sem.run_bind
def Yd:=@Sem.run_pure
def Ye:=@decide_eq_false
def Yf:=@Int.toNat_natCast
def Yg:=@Nat.le_refl
theorem Yh{α:Type _}{a:α}{l:List α}:(a::l).length=l.length+1:=rfl
def Yi:=@Bool.and_eq_true
def Yj:=@List.map_append
def Yk:=@List.take_of_length_le
def Yl:=@List.getElem?_append_right
def Ym:=@if_false
def Yn:=@List.mem_cons_of_mem
def Yo:=@List.append_assoc
def Yp:=@List.mem_cons_self
def Yq:=@Option.map_eq_some_iff
def Yr:=@List.mem_cons
def Ys:=@List.getElem?_eq_some_iff
def Yt:=@List.getElem?_append_left
def Yu:=@List.mem_singleton
def Yv:=@List.getElem?_cons_zero
def Yw:=@List.length_drop
theorem Yx{α:Type _}:([]:List α).length=0:=rfl
def Yy:=@List.map_cons
def Yz:=@if_true
def YA:=@List.mem_append
def YB:=@decide_eq_true_eq
theorem YC{α:Type _}{a:α}{b c:List α}:a::b++c=a::(b++c):=rfl
def YD:=@List.getElem?_map
theorem YE{α β:Type _}{a:α}{f:α→β}:(some a).map f=some (f a):=rfl
def YF:=@IntKind.wrap_i64
def YG:=@Sum.elim_inr
def YH:=@List.prefix_refl
def YI:=@List.append_nil
theorem YJ{α:Type _}{a b:α}:(some a).getD b=a:=rfl
def YK:=@Nat.mul_le_mul_right
def YL:=@Nat.zero_le
def YM:=@of_decide_eq_true
def YN:=@Bool.false_eq_true
def YO:=@List.mem_of_getElem?
def YP:=@List.getElem?_drop
theorem YQ{α:Type _}(a:List α):[]++a=a:=rfl
def YR:=@List.length_eq_zero_iff
def YS:=@Option.isSome_some
def YT:=@Oper.upon_value
def YU:=@congrArg
def YV:=@Bool.not_true
def YW:=@List.all_eq_true
def YX:=@Int.le_refl
def YY:=@Nat.min_eq_left
def YZ:=@List.mem_of_mem_take
def W0:=@List.mem_map
def W4:=@List.take_append_of_le_length
def W5:=@Option.some.inj
def W6:=@Array.getElem?_eq_getElem
def W7:=@List.take_length
def W8:=@List.take_add_one
def W9:=@List.length_singleton
def Wa:=@List.map_map
def Wb:=@of_decide_eq_false
def Wc:=@List.getElem_of_mem
def We:=@Nat.not_lt_zero
def Wf:=@Nat.zero_add
def Wg:=@Nat.add_mul
def Wh:=@Nat.le_trans
def Wi:=@Array.getD_eq_getD_getElem?
def Wj:=@Option.isSome_iff_exists
def Wl:=@List.mem_filter
def Wm:=@List.map_set
def Wn:=@List.getElem?_eq_none
def Wo:=@Nat.lt_or_ge
def Wp:=@List.take_prefix
def Wq:=@List.mem_of_mem_drop
def Wr:=@Sum.elim_inl
def Ws:=@Nat.le_of_ble_eq_true
def Wt:=@List.getD_eq_getElem?_getD
def Wu:=@List.flatten_cons
def Wv:=@List.drop_eq_getElem_cons
def Ww:=@List.getElem?_take
def Wx:=@Nat.lt_of_lt_of_le
def Wy:=@World.cell?_setCells_out
def Wz:=@List.getElem_mem
def WA:=@Array.length_toList
def WB:=@Int.fdiv_eq_ediv_of_nonneg
def WC:=@Nat.add_zero
def WD:=@List.prefix_append
def WE:=@Nat.mod_eq_of_lt
def WG:=@Array.getElem?_toList
def WH:=@List.take_take
def WJ:=@Int.toNat_zero
def WK:=@World.putObj_heap_other
def WM:=@List.getElem?_of_mem
def WN:=@List.filter_cons
def WO:=@Array.getElem?_eq_some_iff
def WP:=@List.prefix_of_prefix_length_le
def WQ:=@List.drop_of_length_le
def WR:=@List.eq_nil_of_length_eq_zero
def WS:=@beq_self_eq_true
def WU:=@List.getElem?_take_of_lt
def WV:=@Prod.mk.injEq
def WW:=@Nat.add_assoc
def WX:=@List.drop_drop
def WY:=@List.mem_map_of_mem
def WZ:=@List.map_congr_left
def V0:=@List.take_append_drop
def V1:=@List.singleton_append
def V2:=@Bool.not_false
def V3:=@World.heap_setCells_other
def V4:=@List.exists_mem_of_ne_nil
def V5:=@Classical.byContradiction
def V6:=@Array.getElem?_setIfInBounds_ne
def V7:=@Nat.sub_self
def V8:=@Option.map_none
def V9:=@World.cell?_setCells_in
def Va:=@List.getElem?_cons_succ
def Vb:=@List.append_cancel_left
def Vc:=@List.length_pos_iff
def Ve:=@Option.getD_none
def Vf:=@List.not_mem_nil
def Vg:=@List.getElem?_set_self
def Vh:=@Nat.le_of_lt
def Vi:=@IntKind.wrap_u8
def Vj:=@List.length_filter_le
def Vk:=@run_newObj
def Vl:=@List.mem_append_left
def Vm:=@List.foldl_nil
def Vn:=@Nat.le_add_right
def Vo:=@Nat.lt_succ_self
def Vp:=@Int.natCast_zero
def Vq:=@List.drop_length
def Vr:=@Int.le_trans
def Vs:=@Option.elim_some
def Vt:=@Int.toNat_of_nonneg
def Vu:=@List.length_set
def Vv:=@eqGuard_at_pointer
def Vw:=@List.foldl_cons
def Vx:=@Option.isSome_none
def Vy:=@beq_iff_eq
def Vz:=@List.cons.injEq
def VA:=@List.nodup_cons
def VB:=@Option.toList_some
def VC:=@List.countP_append
def VD:=@and_true
def VE:=@List.drop_append_of_le_length
def VF:=@List.nodup_append
def VG:=@Classical.not_not
def VH:=@List.map_nil
def VI:=@Bool.not_eq_eq_eq_not
def VJ:=@Oper.upon_skip
def VK:=@List.drop_zero
def VL:=@World.size_alloc
def VM:=@Array.toList_map
def VN:=@run_storeCells_cells
def VO:=@IntKind.wrap_u64
def VP:=@Array.getElem?_push
def VQ:=@Instr.checkKey.eq_2
def VR:=@List.flatMap_append
def VS:=@Result.ok.injEq
def VT:=@List.pairwise_iff_getElem
def VU:=@Int.natCast_one
def VV:=@Nat.zero_mul
def VW:=@Nat.eq_zero_or_pos
def VX:=@List.eq_of_mem_replicate
def VY:=@UInt8.toNat_ofNat'
def VZ:=@Nat.pow_succ
def U0:=@run_sliceBound
def U1:=@Nat.add_sub_cancel_left
def U2:=@List.getElem?_set
def U3:=@List.ext_getElem?
def U4:=@Array.toList_push
def U5:=@Nat.lt_trichotomy
def U6:=@List.flatMap_cons
def U7:=@bne_self_eq_false
def U8:=@World.putObj_heap_same
def U9:=@Sum.inr.inj
def Ua:=@List.all_cons
def Ub:=@List.map_take
def Uc:=@Option.map_id
def Ud:=@List.take_append
def Ue:=@decide_eq_decide
def Uf:=@List.countP_cons
def Ug:=@Array.getElem?_modify
def Uh:=@Nat.eq_of_beq_eq_true
def Ui:=@List.countP_eq_length
def Uj:=@Int.natCast_mul
def Uk:=@List.nil_prefix
def Ul:=@List.take_zero
def bI:Nat:=1073741824
inductive AV where
 |int (k:IntKind) (n:Int)
 |bool (b:Bool)
 |str (s:aj)
 |dK
 |sl (xs:List (List AV))
 |agg (cs:List AV)
 |cx (vs:List AV)
 |rp (row:List AV) (off:Nat)
 |fn (f:Nat) (cap:List AV)
 |eT (v:Value)
 |ptr (o row off:Nat)
 |fp (o off len room:Nat)
 |bf (o z:Nat)
 |bm (o:Nat)
 |undef
 |eR (p:Prop)
 deriving Inhabited
structure Loc where
 bB:Nat
 base:Nat
 bX:Nat
 size:Nat
 eA:Nat
abbrev bp:=Nat→Option (Option Loc)
def FB:Nat:=1000000000
def om(f:Nat)(vs:Array Value):Value:=bif Nat.blt f FB then .func (.func f) #[] vs else .func (.func (f-FB)) vs #[]
theorem MS(f:Nat)(vs:Array Value):(om f vs).oneCell'=true:=by
 unfold om;cases Nat.blt f FB<;>rfl
theorem xB{f:Nat}(h:Nat.blt f FB=true)(vs:Array Value):om f vs=.func (.func f) #[] vs:=by
 unfold om;grind
abbrev fC(w:World)(b j:Nat):Option Value:=w.cell? ⟨b,j,none⟩
inductive cE(S:Nat→Prop)(w:World):AV→Value→Prop
 |int (k:IntKind) (n:Int):cE S w (.int k n) (.int k n)
 |bool (b:Bool):cE S w (.bool b) (.bool b)
 |str (s:ByteArray):cE S w (.str s.data.toList) (.string s)
 |dK (a:Option Addr):cE S w .dK (.slice a 0 0)
 |gG:cE S w (.sl []) (.slice none 0 0)
 |sl (xs:List (List AV)) (a:Addr) (cap sz:Nat) (bc:Nat→List Value)
  (iH:xs.length≤cap) (cS:xs.length≤bI)
  (hS:xs≠[]→S a.block∧a.spot=none)
  (hlen:∀(i:Nat) r,xs[i]? =some r→r.length=sz∧(bc i).length=sz)
  (dC:∀(i j:Nat) v,i<xs.length→(bc i)[j]? =some v→fC w a.block (a.off+(i*sz+j))=some v∧v.oneCell'=true)
  (du:∀(i j:Nat) r x v,xs[i]? =some r→r[j]? =some x→(bc i)[j]? =some v→cE S w x v):
  cE S w (.sl xs) (.slice (some a) xs.length cap)
 |agg (cs:List AV) (vs:Array Value) (hl:cs.length=vs.size)
  (h:∀(j:Nat) x v,cs[j]? =some x→vs[j]? =some v→cE S w x v):cE S w (.agg cs) (.agg vs)
 |cx (cs:List AV) (vs:Array Value) (hl:cs.length=vs.size)
  (h:∀(j:Nat) x v,cs[j]? =some x→vs[j]? =some v→cE S w x v):cE S w (.cx cs) (.tuple vs)
 |rp (row:List AV) (off bB base:Nat) (bc:List Value) (hS:S bB) (hl:row.length=bc.length)
  (dC:∀(j:Nat) v,bc[j]? =some v→fC w bB (base+j)=some v∧v.oneCell'=true)
  (h:∀(j:Nat) x v,row[j]? =some x→bc[j]? =some v→cE S w x v):
  cE S w (.rp row off) (.pointer (some ⟨bB,base+off,none⟩))
 |fn (f:Nat) (cap:List AV) (vs:Array Value) (hl:cap.length=vs.size)
  (h:∀(j:Nat) x v,cap[j]? =some x→vs[j]? =some v→cE S w x v):cE S w (.fn f cap) (om f vs)
 |eT (v:Value) (h:v.oneCell'=true):cE S w (.eT v) v
 |undef (v:Value):cE S w .undef v
 |eR (p:Prop) (b:Bool) (h:b=true→p):cE S w (.eR p) (.bool b)
def gA(S:Nat→Prop)(w w':World):Prop:=∀b:Nat,S b→w'.heap[b]? =w.heap[b]?
theorem l9{w w':World}{b j:Nat}(h:w'.heap[b]? =w.heap[b]?):fC w' b j=fC w b j:=by
 simp only[fC,World.cell?,h]
theorem Cy{w w':World}{b j:Nat}(h:w'.heap[b]? =w.heap[b]?):w'.frozen? ⟨b,j,none⟩=w.frozen? ⟨b,j,none⟩:=by
 simp only[World.frozen?,h]
theorem cE.mono{S S':Nat→Prop}{w w':World}(o:∀b,S b→S' b)(q:gA S w w'){x:AV}{v:Value}
 (h:cE S w x v):cE S' w' x v:=by
 induction h with
 |int k n=>exact .int k n
 |bool b=>exact .bool b
 |str s=>exact .str s
 |dK a=>exact .dK a
 |gG=>exact .gG
 |sl xs a cap sz bc iH cS hS hlen dC _ ih=>
  refine .sl xs a cap sz bc iH cS (λ hn=>⟨o _ (hS hn).1,(hS hn).2⟩) hlen (λ i j v A z=>?_) (λ i j r x v h1 y u=>ih i j r x v h1 y u);have hn:xs≠[]:=by intro e;subst e;simp at A
  rw[l9 (q _ (hS hn).1)];grind
 |agg cs vs hl _ ih=>exact .agg cs vs hl ih
 |cx cs vs hl _ ih=>exact .cx cs vs hl ih
 |rp row off bB base bc hS hl dC _ ih=>
  refine .rp row off bB base bc (o _ hS) hl (λ j v z=>?_) ih;rw[l9 (q _ hS)]
  grind
 |fn f cap vs hl _ ih=>exact .fn f cap vs hl ih
 |eT v h=>exact .eT v h
 |undef v=>exact .undef v
 |eR p b h=>exact .eR p b h
inductive cz(S:Nat→Prop)(w:World)(ι:bp):AV→Value→Prop
 |cu (x:AV) (v:Value) (h:cE S w x v):cz S w ι x v
 |agg (cs:List AV) (vs:Array Value) (hl:cs.length=vs.size)
  (h:∀(j:Nat) x v,cs[j]? =some x→vs[j]? =some v→cz S w ι x v):cz S w ι (.agg cs) (.agg vs)
 |cx (cs:List AV) (vs:Array Value) (hl:cs.length=vs.size)
  (h:∀(j:Nat) x v,cs[j]? =some x→vs[j]? =some v→cz S w ι x v):cz S w ι (.cx cs) (.tuple vs)
 |fn (f:Nat) (cap:List AV) (vs:Array Value) (hl:cap.length=vs.size)
  (h:∀(j:Nat) x v,cap[j]? =some x→vs[j]? =some v→cz S w ι x v):cz S w ι (.fn f cap) (om f vs)
 |ptr (o r c:Nat) (l:Loc) (h:ι o=some (some l)):cz S w ι (.ptr o r c) (.pointer (some ⟨l.bB,l.base+(r*l.bX+c),none⟩))
 |fp (o off len room cap:Nat) (a:Addr) (l:Loc) (h:ι o=some (some l)) (h1:len≤room) (h2:room≤cap)
  (h3:l.base+(off+cap)*l.bX≤l.size) (h4:len≤bI) (h5:off+room≤l.eA) (ha:cap≠0→a=⟨l.bB,l.base+off*l.bX,none⟩):
  cz S w ι (.fp o off len room) (.slice (some a) len cap)
 |bf (o z cap:Nat) (a:Addr) (l:Loc) (h:ι o=some (some l)) (h2:l.eA≤cap)
  (h3:l.base+cap*l.bX≤l.size) (h4:l.eA≤bI) (hz:l.eA=0→cap≠0→l.bX=z) (ha:cap≠0→a=⟨l.bB,l.base,none⟩):
  cz S w ι (.bf o z) (.slice (some a) l.eA cap)
 |fW (o z:Nat) (a:Option Addr) (h:ι o=some none):cz S w ι (.bf o z) (.slice a 0 0)
 |jg (o:Nat) (a:Option Addr) (h:ι o=some none):cz S w ι (.fp o 0 0 0) (.slice a 0 0)
 |bm (o:Nat) (l:Loc) (h:ι o=some (some l)):cz S w ι (.bm o) (.map (some l.bB))
def bp.le(ι ι':bp):Prop:=∀o x,ι o=some x→ι' o=some x
theorem cz.mono{S S':Nat→Prop}{w w':World}{ι ι':bp}(i:∀b,S b→S' b)(j:gA S w w')(hι:ι.le ι'){x:AV}{v:Value}
 (h:cz S w ι x v):cz S' w' ι' x v:=by
 induction h with
 |cu x v h=>exact .cu x v (h.mono i j)
 |agg cs vs hl _ ih=>exact .agg cs vs hl ih
 |cx cs vs hl _ ih=>exact .cx cs vs hl ih
 |fn f cap vs hl _ ih=>exact .fn f cap vs hl ih
 |ptr o r c l h=>exact .ptr o r c l (hι _ _ h)
 |fp o off len room cap a l h h1 h2 h3 h4 h5 ha=>exact .fp o off len room cap a l (hι _ _ h) h1 h2 h3 h4 h5 ha
 |bf o z cap a l h h2 h3 h4 hz ha=>exact .bf o z cap a l (hι _ _ h) h2 h3 h4 hz ha
 |fW o z a h=>exact .fW o z a (hι _ _ h)
 |jg o a h=>exact .jg o a (hι _ _ h)
 |bm o l h=>exact .bm o l (hι _ _ h)
theorem bp.le_refl(ι:bp):ι.le ι:=λ _ _ h=>h
def kp:AV→Bool
 |.int .. |.bool _|.str _|.dK|.sl _|.rp .. |.fn .. |.eT _|.ptr .. |.fp .. |.bf .. |.bm _=>true
 |.agg _|.cx _|.undef=>false
 |.eR _=>false
theorem cE.cell{S:Nat→Prop}{w:World}{x:AV}{v:Value}(h:cE S w x v)(i:kp x=true):v.oneCell'=true:=by
 cases h<;>first|rfl|assumption|exact MS _ _|(simp[kp]at i;done)
theorem cz.cell{S:Nat→Prop}{w:World}{ι:bp}{x:AV}{v:Value}(h:cz S w ι x v)(i:kp x=true):v.oneCell'=true:=by
 cases h with
 |cu _ _ h=>exact h.cell i
 |_=>first|rfl|exact MS _ _|(simp[kp]at i;done)
def lv:AV→Option (List AV)
 |.agg cs=>if cs.all kp then some cs else none
 |.int k n=>some [.int k n]
 |.bool b=>some [.bool b]
 |.str s=>some [.str s]
 |.dK=>some [.dK]
 |.sl xs=>some [.sl xs]
 |.rp r o=>some [.rp r o]
 |.fn f c=>some [.fn f c]
 |.eT v=>some [.eT v]
 |.ptr o r c=>some [.ptr o r c]
 |.fp o a b c=>some [.fp o a b c]
 |.bf o z=>some [.bf o z]
 |.bm o=>some [.bm o]
 |.cx _=>none
 |.undef=>none
 |.eR _=>none
def bA(S:Nat→Prop)(w:World)(ι:bp)(cs:List AV)(vs:List Value):Prop:=
 cs.length=vs.length∧∀(j:Nat) x v,cs[j]? =some x→vs[j]? =some v→cz S w ι x v
def cy(S:Nat→Prop)(w:World)(cs:List AV)(vs:List Value):Prop:=
 cs.length=vs.length∧∀(j:Nat) x v,cs[j]? =some x→vs[j]? =some v→cE S w x v
theorem cy.rep{S:Nat→Prop}{w:World}{ι:bp}{cs:List AV}{vs:List Value}(h:cy S w cs vs):bA S w ι cs vs:=
 ⟨h.1,λ j x v a b=>.cu _ _ (h.2 j x v a b)⟩
theorem bA.mono{S S':Nat→Prop}{w w':World}{ι ι':bp}(i:∀b,S b→S' b)(o:gA S w w')(hι:ι.le ι'){cs:List AV}{vs:List Value}
 (h:bA S w ι cs vs):bA S' w' ι' cs vs:=⟨h.1,λ j x v a b=>(h.2 j x v a b).mono i o hι⟩
theorem cy.mono{S S':Nat→Prop}{w w':World}(i:∀b,S b→S' b)(o:gA S w w'){cs:List AV}{vs:List Value}
 (h:cy S w cs vs):cy S' w' cs vs:=⟨h.1,λ j x v a b=>(h.2 j x v a b).mono i o⟩
theorem bA.nil{S:Nat→Prop}{w:World}{ι:bp}:bA S w ι [] []:=⟨rfl,λ j x v h=>by simp at h⟩
theorem bA.cons{S:Nat→Prop}{w:World}{ι:bp}{x:AV}{v:Value}{cs:List AV}{vs:List Value}(h:cz S w ι x v)(i:bA S w ι cs vs):
 bA S w ι (x::cs) (v::vs):=by
 refine⟨by simp[i.1],λ j y u hy hu=>?_⟩
 cases j with
 |zero=>simp_all
 |succ j=>exact i.2 j y u (by simp_all) (by simp_all)
theorem bA.append{S:Nat→Prop}{w:World}{ι:bp}{as bs:List AV}{us vs:List Value}(i:bA S w ι as us)(q:bA S w ι bs vs):
 bA S w ι (as++bs) (us++vs):=by
 refine⟨by simp[i.1,q.1],λ j x v o p=>?_⟩
 by_cases hj:j<as.length
 ·rw[Yt hj]at o;rw[Yt (by have:=i.1;omega)]at p
  exact i.2 j x v o p
 ·rw[Yl (by omega)]at o
  rw[Yl (by have:=i.1;omega)]at p
  refine q.2 (j-as.length) x v o ?_;rw[i.1];exact p
theorem bA.take{S:Nat→Prop}{w:World}{ι:bp}{as:List AV}{us:List Value}(n:Nat)(h:bA S w ι as us):bA S w ι (as.take n) (us.take n):=by
 refine⟨by simp[h.1],λ j x v o p=>?_⟩
 rw[Ww]at o p;split at o
 ·rename_i i;simp only[i,Yz]at p;exact h.2 j x v o p
 grind
theorem bA.drop{S:Nat→Prop}{w:World}{ι:bp}{as:List AV}{us:List Value}(n:Nat)(h:bA S w ι as us):bA S w ι (as.drop n) (us.drop n):=by
 refine⟨by simp[h.1],λ j x v i o=>?_⟩
 rw[YP]at i o;exact h.2 _ x v i o
theorem cz.eg{S:Nat→Prop}{w:World}{ι:bp}{cs:List AV}{v:Value}(h:cz S w ι (.agg cs) v):
 ∃vs:Array Value,v=.agg vs∧bA S w ι cs vs.toList:=by
 cases h with
 |cu _ _ h=>
  cases h with
  |agg _ vs hl h=>exact⟨vs,rfl,by omega,λ j x v a b=>.cu _ _ (h j x v a (by grind))⟩
 |agg _ vs hl h=>exact⟨vs,rfl,by omega,λ j x v a b=>h j x v a (by grind)⟩
theorem cz.ib{S:Nat→Prop}{w:World}{ι:bp}{cs:List AV}{v:Value}(h:cz S w ι (.cx cs) v):
 ∃vs:Array Value,v=.tuple vs∧bA S w ι cs vs.toList:=by
 cases h with
 |cu _ _ h=>
  cases h with
  |cx _ vs hl h=>exact⟨vs,rfl,by omega,λ j x v a b=>.cu _ _ (h j x v a (by grind))⟩
 |cx _ vs hl h=>exact⟨vs,rfl,by omega,λ j x v a b=>h j x v a (by grind)⟩
theorem cz.ie{S:Nat→Prop}{w:World}{ι:bp}{f:Nat}{cs:List AV}{v:Value}(h:cz S w ι (.fn f cs) v):
 ∃vs:Array Value,v=om f vs∧bA S w ι cs vs.toList:=by
 cases h with
 |cu _ _ h=>
  cases h with
  |fn _ _ vs hl h=>exact⟨vs,rfl,by omega,λ j x v a b=>.cu _ _ (h j x v a (by grind))⟩
 |fn _ _ vs hl h=>exact⟨vs,rfl,by omega,λ j x v a b=>h j x v a (by grind)⟩
theorem cz.bU{S:Nat→Prop}{w:World}{ι:bp}{k:IntKind}{n:Int}{v:Value}(h:cz S w ι (.int k n) v):v=.int k n:=by
 cases h with|cu _ _ h=>cases h;rfl
theorem cz.dJ{S:Nat→Prop}{w:World}{ι:bp}{b:Bool}{v:Value}(h:cz S w ι (.bool b) v):v=.bool b:=by
 cases h with|cu _ _ h=>cases h;rfl
theorem cz.dk{S:Nat→Prop}{w:World}{ι:bp}{l:aj}{v:Value}(h:cz S w ι (.str l) v):v=.string ⟨l.toArray⟩:=by
 cases h with|cu _ _ h=>cases h;rfl
theorem cz.ik{S:Nat→Prop}{w:World}{ι:bp}{u v:Value}(h:cz S w ι (.eT u) v):v=u:=by
 cases h with|cu _ _ h=>cases h;rfl
theorem cz.dF{S:Nat→Prop}{w:World}{ι:bp}{o r c:Nat}{v:Value}(h:cz S w ι (.ptr o r c) v):
 ∃l,ι o=some (some l)∧v=.pointer (some ⟨l.bB,l.base+(r*l.bX+c),none⟩):=by
 cases h with
 |cu _ _ h=>cases h
 |ptr _ _ _ l h=>simp_all
theorem cz.sg{S:Nat→Prop}{w:World}{ι:bp}{p:Prop}{v:Value}(h:cz S w ι (.eR p) v):∃b:Bool,v=.bool b∧(b=true→p):=by
 cases h with|cu _ _ h=>cases h with|eR _ b h=>simp_all
theorem cz.dx{S:Nat→Prop}{w:World}{ι:bp}{o:Nat}{v:Value}(h:cz S w ι (.bm o) v):
 ∃l,ι o=some (some l)∧v=.map (some l.bB):=by
 cases h with
 |cu _ _ h=>cases h
 |bm _ l h=>simp_all
theorem cE.jK{S:Nat→Prop}{w:World}(l:aj):cE S w (.str l) (.string ⟨l.toArray⟩):=by
 have:=cE.str (S:=S) (w:=w) ⟨l.toArray⟩;omega
theorem zL{S:Nat→Prop}{w:World}{ι:bp}{x:AV}{cs:List AV}{v:Value}(i:lv x=some cs)(h:cz S w ι x v):
 bA S w ι cs v.cells.toList∧cs.all kp=true:=by
 have one:∀y,lv y=some [y]→kp y=true→y=x→bA S w ι cs v.cells.toList∧cs.all kp=true:=by
  intro y e u q;subst q;rw[e]at i;injection i with i;subst i;refine⟨?_,by simp[u]⟩
  have B:=h.cell u;have:v.cells.toList=[v]:=by cases v<;>simp[Value.oneCell']at B<;>simp[Value.cells]
  rw[this];exact bA.cons h .nil
 cases x with
 |agg ds=>
  simp only[lv]at i;split at i
  ·rename_i j;injection i with i;subst i;obtain⟨vs,rfl,A⟩:=h.eg;exact⟨A,j⟩
  grind
 |cx _=>simp[lv]at i
 |undef=>simp[lv]at i
 |eR p=>simp[lv]at i
 |int k n=>exact one _ rfl rfl rfl
 |bool b=>exact one _ rfl rfl rfl
 |str s=>exact one _ rfl rfl rfl
 |dK=>exact one _ rfl rfl rfl
 |sl xs=>exact one _ rfl rfl rfl
 |rp r o=>exact one _ rfl rfl rfl
 |fn f c=>exact one _ rfl rfl rfl
 |eT v=>exact one _ rfl rfl rfl
 |ptr o r c=>exact one _ rfl rfl rfl
 |fp o a b c=>exact one _ rfl rfl rfl
 |bf o z=>exact one _ rfl rfl rfl
 |bm o=>exact one _ rfl rfl rfl
end Go.Ab
open Go.MapKept (Stamped)
namespace Go.Ab
inductive GO where
 |rows (p:Bool) (rs:List (List AV))
 |cw (z:Nat) (fs:List (AV×List (List AV)))
 deriving Inhabited
abbrev Gr:=List (bL×GO)
inductive AO where
 |rows (p:Bool) (rs:List (List AV))
 |dD (rs:List (List AV))
 |bm (p:Bool) (es:List (AV×AV))
 |cw (z:Nat) (fs:List (AV×List (List AV))) (h:Option (Nat×Nat))
 |lit (rs:List (List AV))
 |cF (es:List (AV×Gr)) (h:Option (Nat×Nat))
 deriving Inhabited
def GO.ao:GO→AO
 |.rows p rs=>.rows p rs
 |.cw z fs=>.cw z fs none
structure FS where
 g:Nat→AV
 os:Nat→Option AO
def p9(w:World)(l:Loc)(n:Nat)(bc:Nat→List Value):Prop:=
 l.base+n*l.bX≤l.size∧(∀i<n,(bc i).length=l.bX)∧
  ∀(i j:Nat) v,i<n→(bc i)[j]? =some v→fC w l.bB (l.base+(i*l.bX+j))=some v∧v.oneCell'=true
def ka(p:Bool)(S:Nat→Prop)(w:World)(ι:bp)(rs:List (List AV))(bc:Nat→List Value):Prop:=
 ∀(i:Nat) r,rs[i]? =some r→if p=true then cy S w r (bc i)else bA S w ι r (bc i)
def lh(w:World)(l:Loc):Prop:=
 ∀j,(j<l.size→∃v,fC w l.bB j=some v)∧(j<l.size∨l.bX≠1→w.frozen? ⟨l.bB,j,none⟩=false)
def jH(p:Bool)(S:Nat→Prop)(w:World)(ι:bp)(es:List (AV×AV))(xs:List MapEntry):Prop:=
 es.length=xs.length∧∀(i:Nat) e x,es[i]? =some e→xs[i]? =some x→cE S w e.1 x.key∧cz S w ι e.2 x.val∧(p=true→cE S w e.2 x.val)
def gn:Value→Option Nat
 |.slice (some a) _ cap=>if cap=0 then none else some a.block
 |_=>none
def iX(S:Nat→Prop)(w:World)(z:Nat)(rs:List (List AV))(v:Value):Prop:=
 (gn v=none∧rs=[]∧∃a,v=.slice a 0 0)∨
  ∃l:Loc,gn v=some l.bB∧0<l.size∧cz S w (λ _=>some (some l)) (.bf 0 z) v∧∃bc,rs.length=l.eA∧lh w l∧p9 w l rs.length bc∧ka true S w (λ _=>none) rs bc
def lN(S:Nat→Prop)(w:World)(ι:bp)(z:Nat)(fs:List (AV×List (List AV)))(h:Option (Nat×Nat))(xs:Array MapEntry):Prop:=
 fs.length=xs.size∧
 (∀(i:Nat) e x,fs[i]? =some e→xs[i]? =some x→cE S w e.1 x.key∧(h.map (·.1)≠some i→iX S w z e.2 x.val)∧∀q,h=some (i,q)→cz S w ι (.bf q z) x.val)∧
 ∀(i j:Nat) x y b,xs[i]? =some x→xs[j]? =some y→h.map (·.1)≠some i→h.map (·.1)≠some j→gn x.val=some b→gn y.val=some b→i=j
def oy(xs:Array MapEntry)(i:Nat):Prop:=xs.size≤bI∧Stamped xs i
def ER(w:World)(l:Loc):Prop:=∃c e,w.heap[l.bB]? =some (.cells c e (0,0))∧l.size=c.size
theorem ER.GK{w:World}{l:Loc}(h:ER w l):lh w l:=by
 obtain⟨c,e,h1,h2⟩:=h;intro j;refine⟨λ hj=>⟨c[j]'(by omega),?_⟩,λ _=>?_⟩
 ·simp only[fC,World.cell?,h1];simp
 ·simp[World.frozen?,h1]
def vb:Value→Option Nat
 |.pointer (some a)=>some a.block
 |.map (some b)=>some b
 |.slice (some a) _ cap=>if cap=0 then none else some a.block
 |_=>none
def sN(w:World)(v:Value):bL→Option Value
 | []=>some v
 |c::q=>match sN w v q with
  |some (.pointer (some a))=>fC w a.block (a.off+c)
  |_=>none
def pat(w:World)(v:Value)(q:bL):Option Nat:=(sN w v q).bind vb
def fz(w:World)(c:Nat):GO→Nat→Prop
 |.rows ..,b=>b=c
 |.cw ..,b=>b=c∨∃(xs:Array MapEntry) (j i:Nat) (e:MapEntry),w.heap[c]? =some (.map xs j)∧xs[i]? =some e∧gn e.val=some b
def ew(w:World)(gs:Gr)(v:Value)(b:Nat):Prop:=
 ∃p g,(p,g)∈gs∧((∃r q,p=r++q∧pat w v q=some b)∨∃c,pat w v p=some c∧fz w c g b)
def GP:Option (Option Loc)→Option Nat
 |some (some l)=>some l.bB
 |_=>none
def vS(S:Nat→Prop)(w:World)(ι:bp)(o:Nat):GO→Prop
 |.rows p rs=>(ι o=some none∧rs=[])∨∃l bc,ι o=some (some l)∧rs.length=l.eA∧lh w l∧p9 w l rs.length bc∧ka p S w ι rs bc
 |.cw z fs=>∃l xs i,ι o=some (some l)∧w.heap[l.bB]? =some (.map xs i)∧oy xs i∧lN S w ι z fs none xs
def IM(gs:Gr):Prop:=∀c q g,(c::q,g)∈gs→∃g',(q,g')∈gs
structure qF(S:Nat→Prop)(w:World)(gs:Gr)(v:Value)(ι:bp):Prop where
 root:cz S w ι (.ptr 0 0 0) v
 ob:∀(k:Nat) p g,gs[k]? =some (p,g)→vS S w ι k g∧pat w v p=GP (ι k)
 inj:∀(k k':Nat) p p' g g',gs[k]? =some (p,g)→gs[k']? =some (p',g')→∀l l',ι k=some (some l)→ι k'=some (some l')→∀b,fz w l.bB g b→fz w l'.bB g' b→k=k'
 ways:IM gs
 top:∀k,gs.length≤k→ι k=none
structure sK(S:Nat→Prop)(w:World)(ι:bp)(es:List (AV×Gr))(h:Option (Nat×Nat))(xs:Array MapEntry)(B:Nat):Prop where
 len:es.length=xs.size
 at_:∀(i:Nat) e x,es[i]? =some e→xs[i]? =some x→cE S w e.1 x.key∧(h.map (·.1)≠some i→(∃ιg,qF S w e.2 x.val ιg)∧∀b,ew w e.2 x.val b→b≠B)∧∀q,h=some (i,q)→cz S w ι (.ptr q 0 0) x.val
 inj:∀(i j:Nat) e e' x x' b,es[i]? =some e→es[j]? =some e'→xs[i]? =some x→xs[j]? =some x'→h.map (·.1)≠some i→h.map (·.1)≠some j→ew w e.2 x.val b→ew w e'.2 x'.val b→i=j
def cX(S:Nat→Prop)(w:World)(ι:bp)(o:Nat):AO→Prop
 |.rows p rs=>(ι o=some none∧rs=[])∨∃l bc,ι o=some (some l)∧rs.length=l.eA∧lh w l∧p9 w l rs.length bc∧ka p S w ι rs bc
 |.dD rs=>(ι o=some none∧rs=[])∨∃l bc,ι o=some (some l)∧rs.length=l.eA∧S l.bB∧p9 w l rs.length bc∧ka true S w ι rs bc
 |.bm p es=>∃l xs i,ι o=some (some l)∧w.heap[l.bB]? =some (.map xs i)∧jH p S w ι es xs.toList∧xs.size≤bI
 |.cw z fs h=>∃l xs i,ι o=some (some l)∧w.heap[l.bB]? =some (.map xs i)∧oy xs i∧lN S w ι z fs h xs
 |.lit rs=>∃l bc,ι o=some (some l)∧ER w l∧l.bX=1∧0<rs.length∧rs.length=l.eA∧p9 w l rs.length bc∧ka true S w ι rs bc
 |.cF es h=>∃l xs i,ι o=some (some l)∧w.heap[l.bB]? =some (.map xs i)∧oy xs i∧sK S w ι es h xs l.bB
def c6(w:World)(x:AO)(l:Loc)(b:Nat):Prop:=b=l.bB∨match x with
 |.cw _ _ h=>∃(xs:Array MapEntry) (j i:Nat) (e:MapEntry),w.heap[l.bB]? =some (.map xs j)∧xs[i]? =some e∧h.map (·.1)≠some i∧gn e.val=some b
 |.cF es h=>∃(xs:Array MapEntry) (j i:Nat) (e:AV×Gr) (x:MapEntry),w.heap[l.bB]? =some (.map xs j)∧es[i]? =some e∧xs[i]? =some x∧h.map (·.1)≠some i∧ew w e.2 x.val b
 |_=>False
theorem Na{w w':World}{v:Value}:∀(q:bL),(∀r s b,q=r++s→pat w v s=some b→w'.heap[b]? =w.heap[b]?)→sN w' v q=sN w v q
 | [],_=>rfl
 |c::q,h=>by
  have i:=Na q (λ r s b e j=>h (c::r) s b (by grind) j)
  simp only[sN,i];cases hq:sN w v q with
  |none=>rfl
  |some x=>
   cases x with
   |pointer a=>
    cases a with
    |none=>rfl
    |some a=>exact l9 (h [c] q a.block rfl (by simp[pat,hq,vb]))
   |_=>rfl
theorem zy{w w':World}{c:Nat}(h:w'.heap[c]? =w.heap[c]?){g:GO}{b:Nat}:fz w' c g b↔fz w c g b:=by
 cases g with
 |rows p rs=>rfl
 |cw z fs=>simp only[fz,h]
theorem CN(w:World)(c:Nat)(g:GO):fz w c g c:=by cases g;exact rfl;exact .inl rfl
theorem zo{w w':World}{gs:Gr}{v:Value}(h:∀b,ew w gs v b→w'.heap[b]? =w.heap[b]?){p:bL}{g:GO}(j:(p,g)∈gs){r q:bL}(e:p=r++q):pat w' v q=pat w v q:=by
 unfold pat;rw[Na q (λ o s b e' i=>h b ⟨p,g,j,.inl ⟨r++o,s,by simp_all,i⟩⟩)]
theorem CQ{w w':World}{gs:Gr}{v:Value}(h:∀b,ew w gs v b→w'.heap[b]? =w.heap[b]?){b:Nat}:ew w' gs v b↔ew w gs v b:=by
 constructor
 ·rintro⟨p,g,i,h1⟩;refine⟨p,g,i,?_⟩;rcases h1 with ⟨r,q,e,h1⟩|⟨c,h1,j⟩
  ·exact .inl ⟨r,q,e,by rw[←zo h i e];exact h1⟩
  ·rw[zo h i (r:=[]) rfl]at h1;exact .inr ⟨c,h1,(zy (h c ⟨p,g,i,.inl ⟨[],p,rfl,h1⟩⟩)).1 j⟩
 ·rintro⟨p,g,i,h1⟩;refine⟨p,g,i,?_⟩;rcases h1 with ⟨r,q,e,h1⟩|⟨c,h1,j⟩
  ·exact .inl ⟨r,q,e,by rw[zo h i e];exact h1⟩
  ·exact .inr ⟨c,by rw[zo h i (r:=[]) rfl];exact h1,(zy (h c ⟨p,g,i,.inl ⟨[],p,rfl,h1⟩⟩)).2 j⟩
theorem ft{w w':World}{x:AO}{l:Loc}(h:∀b,c6 w x l b→w'.heap[b]? =w.heap[b]?){b:Nat}(j:c6 w' x l b):c6 w x l b:=by
 have q:=h _ (.inl rfl);cases x with
 |cF es hh=>
  rcases j with j|⟨xs,c,i,e,x,h1,p,o,u,y⟩
  ·exact .inl j
  ·rw[q]at h1;exact .inr ⟨xs,c,i,e,x,h1,p,o,u,(CQ (λ b j=>h b (.inr ⟨xs,c,i,e,x,h1,p,o,u,j⟩))).1 y⟩
 |_=>
  unfold c6 at j⊢;rw[q]at j;exact j
theorem Zps{w w':World}{x:AO}{l:Loc}(h:∀b,c6 w x l b→w'.heap[b]? =w.heap[b]?){b:Nat}(j:c6 w x l b):c6 w' x l b:=by
 have q:=h _ (.inl rfl);cases x with
 |cF es hh=>
  rcases j with j|⟨xs,c,i,e,x,h1,p,o,u,y⟩
  ·exact .inl j
  ·exact .inr ⟨xs,c,i,e,x,by rw[q];exact h1,p,o,u,(CQ (λ b j=>h b (.inr ⟨xs,c,i,e,x,h1,p,o,u,j⟩))).2 y⟩
 |_=>
  unfold c6 at j⊢;rw[q];exact j
def xx:AO→Bool
 |.cw .. =>false
 |.cF .. =>false
 |_=>true
theorem iY{w:World}{x:AO}{l:Loc}{b:Nat}(h:xx x=true)(i:c6 w x l b):b=l.bB:=by
 rcases i with i|i
 ·exact i
 ·cases x<;>first|grind|(cases h)
theorem iX.mono{S S':Nat→Prop}{w w':World}(p:∀b,S b→S' b)(q:gA S w w'){z:Nat}{rs:List (List AV)}{v:Value}
 (B:∀b,gn v=some b→w'.heap[b]? =w.heap[b]?) (h:iX S w z rs v):iX S' w' z rs v:=by
 rcases h with h|⟨l,h1,h0,A,bc,x,y,o,F⟩
 ·exact .inl h
 ·have e:=B _ h1;refine .inr ⟨l,h1,h0,A.mono p q (λ _ _ h=>h),bc,x,λ j=>?_,⟨o.1,o.2.1,λ i j v E C=>?_⟩,λ i r u=>?_⟩
  ·rw[l9 e,Cy e];exact y j
  ·rw[l9 e];exact o.2.2 i j v E C
  ·have:=F i r u;simp only[Yz]at this⊢;exact this.mono p q
theorem lN.mono{S S':Nat→Prop}{w w':World}{ι ι':bp}(o:∀b,S b→S' b)(p:gA S w w')(hι:ι.le ι'){z:Nat}{fs:List (AV×List (List AV))}{h:Option (Nat×Nat)}{xs:Array MapEntry}
 (C:∀(i:Nat) e b,xs[i]? =some e→h.map (·.1)≠some i→gn e.val=some b→w'.heap[b]? =w.heap[b]?) (j:lN S w ι z fs h xs):lN S' w' ι' z fs h xs:=by
 refine⟨j.1,λ i e x y u=>?_,j.2.2⟩;obtain⟨h1,B,A⟩:=j.2.1 i e x y u
 exact⟨h1.mono o p,λ hn=>(B hn).mono o p (λ b E=>C i x b u hn E),λ q F=>(A q F).mono o p hι⟩
theorem ka.AN{p:Bool}{S S':Nat→Prop}{w w':World}{ι ι':bp}(j:∀b,S b→S' b)(o:gA S w w')(hι:ι.le ι')
 {rs:List (List AV)} {bc:Nat→List Value} (h:ka p S w ι rs bc):ka p S' w' ι' rs bc:=by
 intro i r q;have:=h i r q;cases p
 ·simp only[YN,Ym]at this⊢;exact this.mono j o hι
 ·simp only[Yz]at this⊢;exact this.mono j o
theorem vS.mono{S S':Nat→Prop}{w w':World}{ι ι':bp}{o:Nat}{g:GO}(C:∀b,S b→S' b)(E:gA S w w')(hι:ι.le ι')
 (A:∀l,ι o=some (some l)→∀b,fz w l.bB g b→w'.heap[b]? =w.heap[b]?) (h:vS S w ι o g):vS S' w' ι' o g:=by
 cases g with
 |rows p rs=>
  rcases h with ⟨h,rfl⟩|⟨l,bc,h1,H,x,u,y⟩
  ·exact .inl ⟨hι _ _ h,rfl⟩
  ·have e:=A l h1 _ rfl;refine .inr ⟨l,bc,hι _ _ h1,H,λ j=>?_,⟨u.1,u.2.1,λ i j v J B=>?_⟩,y.AN C E hι⟩
   ·rw[l9 e,Cy e];exact x j
   ·rw[l9 e];exact u.2.2 i j v J B
 |cw z fs=>
  obtain⟨l,xs,q,h1,x,u,y⟩:=h;exact⟨l,xs,q,hι _ _ h1,by rw[A l h1 _ (.inl rfl)];exact x,u,y.mono C E hι (λ i e b F hn B=>A l h1 b (.inr ⟨xs,q,i,e,x,F,B⟩))⟩
theorem JW{S:Nat→Prop}{w:World}{ι:bp}{o:Nat}{g:GO}:vS S w ι o g↔cX S w ι o g.ao:=by cases g<;>exact Iff.rfl
theorem Jm{w:World}{g:GO}{l:Loc}{b:Nat}:fz w l.bB g b↔c6 w g.ao l b:=by
 cases g with
 |rows p rs=>exact⟨λ h=>.inl h,λ h=>h.elim id False.elim⟩
 |cw z fs=>
  constructor
  ·rintro(h|⟨xs,c,i,e,h1,j,o⟩)
   ·exact .inl h
   ·exact .inr ⟨xs,c,i,e,h1,j,by simp,o⟩
  ·rintro(h|⟨xs,c,i,e,h1,j,_,o⟩)
   ·exact .inl h
   ·exact .inr ⟨xs,c,i,e,h1,j,o⟩
theorem qF.bB{S:Nat→Prop}{w:World}{gs:Gr}{v:Value}{ιg:bp}(h:qF S w gs v ιg){k:Nat}{p:bL}{g:GO}(i:gs[k]? =some (p,g)){l:Loc}(j:ιg k=some (some l)){b:Nat}(o:fz w l.bB g b):ew w gs v b:=
 ⟨p,g,YO i,.inr ⟨l.bB,by rw[(h.ob k p g i).2,j];rfl,o⟩⟩
theorem IM.K0{gs:Gr}(h:IM gs):∀{p:bL} {g:GO},(p,g)∈gs→∀{r q:bL},p=r++q→∃g',(q,g')∈gs
 |_,g,hp,[],q,e=>⟨g,by simp_all⟩
 |_,g,hp,c::r,q,e=>by
  subst e;obtain⟨g',i⟩:=h c (r++q) g hp;exact h.K0 i rfl
theorem qF.tR{S:Nat→Prop}{w:World}{gs:Gr}{v:Value}{ιg:bp}(h:qF S w gs v ιg){b:Nat}(B:ew w gs v b):∃k p g l,gs[k]? =some (p,g)∧ιg k=some (some l)∧fz w l.bB g b:=by
 have key:∀p g c,(p,g)∈gs→pat w v p=some c→∃k l,gs[k]? =some (p,g)∧ιg k=some (some l)∧l.bB=c:=by
  intro p g c o A;obtain⟨k,z⟩:=WM o;have i:=(h.ob k p g z).2;rw[A]at i;cases hι:ιg k with
  |none=>rw[hι]at i;cases i
  |some y=>
   cases y with
   |none=>rw[hι]at i;cases i
   |some l=>rw[hι]at i;injection i with i;grind
 obtain⟨p,g,o,h1⟩:=B;rcases h1 with ⟨r,q,e,h1⟩|⟨c,h1,i⟩
 ·obtain⟨g',j⟩:=h.ways.K0 o e;obtain⟨k,l,x,C,u⟩:=key q g' b j h1;exact⟨k,q,g',l,x,C,by rw[u];exact CN _ _ _⟩
 grind
theorem qF.mono{S S':Nat→Prop}{w w':World}(x:∀b,S b→S' b)(z:gA S w w'){gs:Gr}{v:Value}{ιg:bp}
 (u:∀b,ew w gs v b→w'.heap[b]? =w.heap[b]?) (h:qF S w gs v ιg):qF S' w' gs v ιg:=by
 refine⟨h.root.mono x z (λ _ _ h=>h),λ k p g i=>⟨?_,?_⟩,λ k k' p p' g g' i j l l' q o b b1 y=>?_,h.ways,h.top⟩
 ·exact(h.ob k p g i).1.mono x z (λ _ _ h=>h) (λ l q b A=>u b (h.bB i q A))
 ·rw[zo u (YO i) (r:=[]) rfl];exact(h.ob k p g i).2
 ·rw[zy (u _ (h.bB i q (CN _ _ _)))]at b1;rw[zy (u _ (h.bB j o (CN _ _ _)))]at y;exact h.inj k k' p p' g g' i j l l' q o b b1 y
theorem sK.mono{S S':Nat→Prop}{w w':World}{ι ι':bp}(E:∀b,S b→S' b)(F:gA S w w')(hι:ι.le ι'){es:List (AV×Gr)}{h:Option (Nat×Nat)}{xs:Array MapEntry}{B:Nat}
 (Q:∀(i:Nat) e x b,es[i]? =some e→xs[i]? =some x→h.map (·.1)≠some i→ew w e.2 x.val b→w'.heap[b]? =w.heap[b]?) (C:sK S w ι es h xs B):sK S' w' ι' es h xs B:=by
 have J:∀(i:Nat) e x,es[i]? =some e→xs[i]? =some x→h.map (·.1)≠some i→∀b,ew w' e.2 x.val b↔ew w e.2 x.val b:=λ i e x h1 z H b=>CQ (λ b O=>Q i e x b h1 z H O);refine⟨C.len,λ i e x o p=>?_,λ i j e R x x' b o A p y hn u h1 z=>?_⟩
 ·obtain⟨h1,z,H⟩:=C.at_ i e x o p;refine⟨h1.mono E F,λ hn=>?_,λ q U=>(H q U).mono E F hι⟩;obtain⟨⟨ιg,T⟩,O⟩:=z hn
  exact⟨⟨ιg,T.mono E F (λ b M=>Q i e x b o p hn M)⟩,λ b M=>O b ((J i e x o p hn b).1 M)⟩
 ·exact C.inj i j e R x x' b o A p y hn u ((J i e x o p hn b).1 h1) ((J j R x' A y u b).1 z)
def AO.live:AO→Bool
 |.dD _=>false
 |_=>true
inductive Wk:AV→AV→Prop
 |refl (a:AV):Wk a a
 |dK:Wk .dK (.sl [])
 |agg (as bs:List AV) (hl:as.length=bs.length) (h:∀(j:Nat) x y,as[j]? =some x→bs[j]? =some y→Wk x y):Wk (.agg as) (.agg bs)
 |cx (as bs:List AV) (hl:as.length=bs.length) (h:∀(j:Nat) x y,as[j]? =some x→bs[j]? =some y→Wk x y):Wk (.cx as) (.cx bs)
 |sl (xs ys:List (List AV)) (hl:xs.length=ys.length) (hr:∀(i:Nat) r q,xs[i]? =some r→ys[i]? =some q→r.length=q.length)
  (h:∀(i j:Nat) r q x y,xs[i]? =some r→ys[i]? =some q→r[j]? =some x→q[j]? =some y→Wk x y):Wk (.sl xs) (.sl ys)
def eZ:List AV→List AV→Prop
 | [],[]=>True
 |a::as,b::bs=>Wk a b∧eZ as bs
 |_,_=>False
def mI:List (List AV)→List (List AV)→Prop
 | [],[]=>True
 |a::as,b::bs=>eZ a b∧mI as bs
 |_,_=>False
def gO(a b:AO):Prop:=b=a∨(∃p rs i,a=.rows p rs∧b=.rows p i∧mI rs i)∨∃rs i,a=.dD rs∧b=.dD i∧mI rs i
def dP:List (Option AO)→List (Option AO)→Prop
 | [],[]=>True
 |some a::as,some b::bs=>gO a b∧dP as bs
 |_,_=>False
theorem L8{S:Nat→Prop}{w:World}{v:Value}(h:cE S w .dK v):cE S w (.sl []) v:=by
 cases h with
 |dK a=>
  cases a with
  |none=>exact .gG
  |some a=>exact .sl [] a 0 0 (λ _=>[]) (Yg _) (by simp) (λ h=>absurd rfl h) (λ i r h=>by simp at h) (λ i j v h=>by simp at h) (λ i j r x v h=>by simp at h)
theorem ya{α β:Type}{as:List α}{bs:List β}(h:as.length=bs.length){j:Nat}{y:β}(i:bs[j]? =some y):∃x,as[j]? =some x:=by
 have:j<bs.length:=(Ys.1 i).1;simp_all
theorem Wk.w7{S:Nat→Prop}{w:World}{a b:AV}(h:Wk a b):∀v,cE S w a v→cE S w b v:=by
 induction h with
 |refl a=>simp
 |dK=>exact λ v h=>L8 h
 |agg as bs hl _ ih=>
  intro v o;cases o with
  |agg _ vs ll h2=>
   refine .agg _ _ (by omega) (λ j y u p z=>?_)
   grind
 |cx as bs hl _ ih=>
  intro v o;cases o with
  |cx _ vs ll h2=>
   refine .cx _ _ (by omega) (λ j y u p z=>?_)
   grind
 |sl xs ys hl hr _ ih=>
  intro v o;cases o with
  |gG=>
   obtain rfl:ys=[]:=YR.1 (by simp_all)
   exact .gG
  |sl _ a cap sz bc iH cS hS hlen dC du=>
   rw[hl];refine .sl ys a cap sz bc (by omega) (by omega) (λ hn=>hS (λ e=>hn (YR.1 (by simp_all)))) (λ i q x=>?_) (λ i j v hi o=>dC i j v (by omega) o) (λ i j q y v x p o=>?_)
   ·grind
   ·obtain⟨r,A⟩:=ya hl x;grind
theorem Wk.rep{S:Nat→Prop}{w:World}{ι:bp}{a b:AV}(h:Wk a b):∀v,cz S w ι a v→cz S w ι b v:=by
 induction h with
 |refl a=>simp
 |dK=>intro v h;cases h with|cu _ _ h=>exact .cu _ _ (L8 h)
 |agg as bs hl _ ih=>
  intro v i;obtain⟨vs,rfl,h1,z⟩:=i.eg;refine .agg _ _ (by simp_all) (λ j y u o p=>?_)
  obtain⟨x,q⟩:=ya hl o;grind
 |cx as bs hl _ ih=>
  intro v i;obtain⟨vs,rfl,h1,z⟩:=i.ib;refine .cx _ _ (by simp_all) (λ j y u o p=>?_)
  obtain⟨x,q⟩:=ya hl o;grind
 |sl xs ys hl hr h _=>
  intro v i;cases i with
  |cu _ _ i=>exact .cu _ _ ((Wk.sl xs ys hl hr h).w7 v i)
theorem eZ.get:∀{as bs:List AV},eZ as bs→as.length=bs.length∧∀(j:Nat) x y,as[j]? =some x→bs[j]? =some y→Wk x y
 | [],[],_=>⟨rfl,λ j x y _ h=>by simp at h⟩
 |a::as,b::bs,h=>by
  obtain⟨h1,h2⟩:=eZ.get h.2;refine⟨by simp[h1],λ j x y o i=>?_⟩
  cases j with
  |zero=>simp at o i;subst o;subst i;exact h.1
  |succ j=>grind
 | [],_::_,h=>h.elim
 |_::_,[],h=>h.elim
theorem mI.get:∀{as bs:List (List AV)},mI as bs→as.length=bs.length∧∀(j:Nat) x y,as[j]? =some x→bs[j]? =some y→eZ x y
 | [],[],_=>⟨rfl,λ j x y _ h=>by simp at h⟩
 |a::as,b::bs,h=>by
  obtain⟨h1,h2⟩:=mI.get h.2;refine⟨by simp[h1],λ j x y o i=>?_⟩
  cases j with
  |zero=>simp at o i;subst o;subst i;exact h.1
  |succ j=>grind
 | [],_::_,h=>h.elim
 |_::_,[],h=>h.elim
theorem eZ.wX{S:Nat→Prop}{w:World}{ι:bp}{as bs:List AV}{vs:List Value}(h:eZ as bs)(p:bA S w ι as vs):bA S w ι bs vs:=by
 obtain⟨h1,q⟩:=h.get;refine⟨by rw[←h1];exact p.1,λ j y v o u=>?_⟩
 obtain⟨x,i⟩:=ya h1 o;exact(q j x y i o).rep v (p.2 j x v i u)
theorem eZ.vA{S:Nat→Prop}{w:World}{as bs:List AV}{vs:List Value}(h:eZ as bs)(p:cy S w as vs):cy S w bs vs:=by
 obtain⟨h1,q⟩:=h.get;refine⟨by rw[←h1];exact p.1,λ j y v o u=>?_⟩
 obtain⟨x,i⟩:=ya h1 o;exact(q j x y i o).w7 v (p.2 j x v i u)
theorem gO.live{a b:AO}(h:gO a b):b.live=a.live:=by
 rcases h with rfl|⟨p,rs,i,rfl,rfl,_⟩|⟨rs,i,rfl,rfl,_⟩<;>rfl
theorem gO.ok{S:Nat→Prop}{w:World}{ι:bp}{o:Nat}{a b:AO}(h:gO a b)(C:cX S w ι o a):cX S w ι o b:=by
 rcases h with rfl|⟨p,rs,B,rfl,rfl,h⟩|⟨rs,B,rfl,rfl,h⟩
 ·exact C
 ·obtain⟨h1,A⟩:=h.get;rcases C with ⟨q,rfl⟩|⟨l,bc,e1,F,E,H,z⟩
  ·exact .inl ⟨q,YR.1 (by simp_all)⟩
  ·refine .inr ⟨l,bc,e1,by omega,E,by simp_all,λ i r j=>?_⟩
   obtain⟨x,u⟩:=ya h1 j;have y:=A i x r u j;have:=z i x u;cases p
   ·simp only[YN,Ym]at this⊢;exact y.wX this
   ·simp only[Yz]at this⊢;exact y.vA this
 ·obtain⟨h1,A⟩:=h.get;rcases C with ⟨q,rfl⟩|⟨l,bc,e1,F,E,H,z⟩
  ·exact .inl ⟨q,YR.1 (by simp_all)⟩
  ·refine .inr ⟨l,bc,e1,by omega,E,by simp_all,λ i r j=>?_⟩
   obtain⟨x,u⟩:=ya h1 j;have y:=A i x r u j;have:=z i x u;simp only[Yz]at this⊢;exact y.vA this
theorem Wk.eq{a b:AV}(h:b=a):Wk a b:=h▸.refl b
theorem Wk.a{as bs:List AV}(h:eZ as bs):Wk (.agg as) (.agg bs):=.agg as bs h.get.1 h.get.2
theorem Wk.t{as bs:List AV}(h:eZ as bs):Wk (.cx as) (.cx bs):=.cx as bs h.get.1 h.get.2
theorem eZ.nil:eZ [] []:=trivial
theorem eZ.cons{a b:AV}{as bs:List AV}(h:Wk a b)(i:eZ as bs):eZ (a::as) (b::bs):=⟨h,i⟩
theorem mI.nil:mI [] []:=trivial
theorem mI.cons{a b:List AV}{as bs:List (List AV)}(h:eZ a b)(i:mI as bs):mI (a::as) (b::bs):=⟨h,i⟩
theorem eZ.refl:∀{as:List AV},eZ as as
 | []=>trivial
 |a::_=>⟨.refl a,eZ.refl⟩
theorem eZ.of_eq{as bs:List AV}(h:bs=as):eZ as bs:=h▸eZ.refl
theorem dP.of_eq{α:Type}{f:α→AO}:∀{l:List α} {as:List (Option AO)},l.map (λ e=>some (f e))=as→dP as (l.map λ e=>some (f e))
 | [],_,rfl=>trivial
 |_::_,_,rfl=>⟨.inl rfl,dP.of_eq rfl⟩
theorem dP.get:∀{as bs:List (Option AO)},dP as bs→∀(j:Nat) x y,as[j]? =some x→bs[j]? =some (some y)→∃a,x=some a∧gO a y
 | [],[],_,j,x,y,h1,h2=>by simp at h1
 |some a::as,some b::bs,h,j,x,y,h1,h2=>by
  cases j with
  |zero=>simp at h1 h2;subst h1;subst h2;exact⟨a,rfl,h.1⟩
  |succ j=>exact dP.get h.2 j x y (by simp_all) (by simp_all)
 | [],_::_,h,_,_,_,_,_=>h.elim
 |none::_,_::_,h,_,_,_,_,_=>by simp[dP]at h
 |some _::_,none::_,h,_,_,_,_,_=>by simp[dP]at h
 |some _::_,[],h,_,_,_,_,_=>by simp_all
 |none::_,[],h,_,_,_,_,_=>by simp_all
theorem dP.nil:dP [] []:=trivial
theorem dP.cons{a b:AO}{as bs:List (Option AO)}(h:gO a b)(i:dP as bs):dP (some a::as) (some b::bs):=⟨h,i⟩
theorem gO.eq{a b:AO}(h:b=a):gO a b:=.inl h
theorem gO.r{p:Bool}{rs i:List (List AV)}(h:mI rs i):gO (.rows p rs) (.rows p i):=.inr (.inl ⟨p,rs,i,rfl,rfl,h⟩)
theorem ka.mono{p:Bool}{S S':Nat→Prop}{w w':World}{ι ι':bp}(j:∀b,S b→S' b)(o:gA S w w')(hι:ι.le ι')
 {rs:List (List AV)} {bc:Nat→List Value} (h:ka p S w ι rs bc):ka p S' w' ι' rs bc:=by
 intro i r q;have:=h i r q;cases p
 ·simp only[YN,Ym]at this⊢;exact this.mono j o hι
 ·simp only[Yz]at this⊢;exact this.mono j o
theorem cX.mono{S S':Nat→Prop}{w w':World}{ι ι':bp}{o:Nat}{x:AO}(B:∀b,S b→S' b)(C:gA S w w')(hι:ι.le ι')
 (F:∀l,ι o=some (some l)→x.live=true→∀b,c6 w x l b→w'.heap[b]? =w.heap[b]?) (h:cX S w ι o x):cX S' w' ι' o x:=by
 cases x with
 |rows p rs=>
  rcases h with ⟨h,rfl⟩|⟨l,bc,h1,J,y,u,A⟩
  ·exact .inl ⟨hι _ _ h,rfl⟩
  ·have e:=F l h1 rfl _ (.inl rfl);refine .inr ⟨l,bc,hι _ _ h1,J,λ j=>?_,⟨u.1,u.2.1,λ i j v H E=>?_⟩,A.mono B C hι⟩
   ·rw[l9 e,Cy e];exact y j
   ·rw[l9 e];exact u.2.2 i j v H E
 |dD rs=>
  rcases h with ⟨h,rfl⟩|⟨l,bc,h1,J,y,u,A⟩
  ·exact .inl ⟨hι _ _ h,rfl⟩
  ·have e:=C _ y;refine .inr ⟨l,bc,hι _ _ h1,J,B _ y,⟨u.1,u.2.1,λ i j v H E=>?_⟩,A.mono B C hι⟩;rw[l9 e];exact u.2.2 i j v H E
 |bm p es=>
  obtain⟨l,xs,q,h1,y,u,A⟩:=h;refine⟨l,xs,q,hι _ _ h1,by rw[F l h1 rfl _ (.inl rfl)];exact y,⟨u.1,λ i e x a b=>?_⟩,A⟩
  exact⟨(u.2 i e x a b).1.mono B C,(u.2 i e x a b).2.1.mono B C hι,λ X=>((u.2 i e x a b).2.2 X).mono B C⟩
 |cw z fs hh=>
  obtain⟨l,xs,q,h1,y,u,A⟩:=h;exact⟨l,xs,q,hι _ _ h1,by rw[F l h1 rfl _ (.inl rfl)];exact y,u,A.mono B C hι (λ i e b M hn E=>F l h1 rfl b (.inr ⟨xs,q,i,e,y,M,hn,E⟩))⟩
 |cF es hh=>
  obtain⟨l,xs,q,h1,y,u,A⟩:=h;exact⟨l,xs,q,hι _ _ h1,by rw[F l h1 rfl _ (.inl rfl)];exact y,u,A.mono B C hι (λ i e x b M T hn V=>F l h1 rfl b (.inr ⟨xs,q,i,e,x,y,M,T,hn,V⟩))⟩
 |lit rs=>
  obtain⟨l,bc,h1,⟨c,Q,y,u⟩,A,U,Y,O,R⟩:=h;have e:=F l h1 rfl _ (.inl rfl);exact⟨l,bc,hι _ _ h1,⟨c,Q,by simp_all,u⟩,A,U,Y,⟨O.1,O.2.1,λ i j v H E=>by rw[l9 e];exact O.2.2 i j v H E⟩,R.mono B C hι⟩
structure Fr(Ow:Nat→Prop)(w0 w:World):Prop where
 os:w.os=w0.os
 output:w.output=w0.output
 size:w0.heap.size≤w.heap.size
 old:∀b<w0.heap.size,¬Ow b→w.heap[b]? =w0.heap[b]?
abbrev eo:=Nat→Option (List AV)
def ox(S:Nat→Prop)(w:World)(g:Nat)(row:List AV):Prop:=cE S w (.rp row 0) (.pointer (some ⟨g,0,none⟩))∧∃cs t fr,w.heap[g]? =some (.cells cs t fr)∧cs.size=row.length
theorem ox.mono{S S':Nat→Prop}{w w':World}{g:Nat}{row:List AV}(h:ox S w g row)(j:∀b,S b→S' b)(i:gA S w w'):ox S' w' g row:=by
 refine⟨h.1.mono j i,?_⟩;have o:S g:=by
  have:=h.1;generalize hv:Value.pointer (some ⟨g,0,none⟩)=v at this;cases this with
  |rp row off bB base bc hS hl dC hr=>
   simp_all
 obtain⟨cs,t,fr,e,es⟩:=h.2;exact⟨cs,t,fr,(i g o).trans e,es⟩
def pE(G:eo)(S:Nat→Prop)(w:World):Prop:=∀g row,G g=some row→ox S w g row
structure Sl where
 lo:Nat
 n:Nat
 no:Bool
structure Cx where
 G:eo
 w0:World
 N:Sl
 Ow:Nat→Prop
 S0:Nat→Prop
 m:Nat
 i0:bp
 QX:∀j L,i0 j=some L→j<m
 kv:Nat→Value
 dfs:List Deferred
 qb:List (Nat×Obj)
structure Inv(C:Cx)(S:Nat→Prop)(ι:bp)(un:Nat→Prop)(f:FS)(a:Act)(w:World):Prop where
 tm:∀t,cz S w ι (f.g t) (a.tmps.getD t undef)
 sz:a.tmps.size=C.N.n
 df:a.defers=C.dfs∧(∀t<C.N.lo,a.tmps.getD t undef=C.kv t)∧∀q∈C.qb,S q.1∧w.heap[q.1]? =some q.2
 ob:∀o x,f.os o=some x→cX S w ι o x
 own:∀o x,f.os o=some x→x.live=true→∀l,ι o=some (some l)→∀b,c6 w x l b→C.Ow b∧¬S b∧b<w.heap.size
 inj:∀o o' x x',f.os o=some x→f.os o'=some x'→x.live=true→x'.live=true→
  ∀l l',ι o=some (some l)→ι o'=some (some l')→∀b,c6 w x l b→c6 w x' l' b→o=o'
 sb:∀b,S b→b<w.heap.size
 sn:∀b,S b→C.S0 b∨C.Ow b
 un:∀o,un o→ι o=none
 fr:Fr C.Ow C.w0 w
 fo:∀b,C.w0.heap.size≤b→C.Ow b
 gv:pE C.G S w
 s0:∀b,C.S0 b→S b
 hj:∀j L,C.i0 j=some L→ι j=some L
def FS.put(f:FS)(dst:Option Nat)(v:AV):FS:=
 match dst with
 |some d=>{f with g:=λ t=>if t=d then v else f.g t}
 |none=>f
def bw(os:Nat→Option AO):List (Nat×Option AO)→Nat→Option AO
 | []=>os
 |(k,x)::r=>λ o=>if o=k then x else bw os r o
def FS.fq(f:FS)(dst:Option Nat)(v:AV)(U:List (Nat×Option AO)):FS:=
 {(f.put dst v)with os:=bw f.os U}
theorem so(w:World)(o:Obj)(i:Nat)(h:i<w.heap.size):(w.alloc o).heap[i]? =w.heap[i]? :=by
 simp only[World.alloc,VP];grind
section
variable {C:Cx}
theorem Inv.put{S:Nat→Prop}{ι:bp}{un:Nat→Prop}{f:FS}{a:Act}{w:World}(h:Inv C S ι un f a w){dst:Option Nat}
 {v:AV} {v':Value} (hv:cz S w ι v v') (hd:∀d,dst=some d→C.N.lo≤d∧d<C.N.n):Inv C S ι un (f.put dst v) (a.put dst v') w:=by
 cases dst with
 |none=>exact h
 |some d=>
  have hd:=hd d rfl;refine⟨λ t=>?_,?_,⟨h.df.1,λ t i=>?_,h.df.2.2⟩,h.ob,h.own,h.inj,h.sb,h.sn,h.un,h.fr,h.fo,h.gv,h.s0,h.hj⟩
  ·by_cases i:t=d
   ·subst i;have e:(a.tmps.setIfInBounds t v').getD t undef=v':=by
     simp only[Wi];rw[Array.getElem?_setIfInBounds_self_of_lt (by rw[h.sz];exact hd.2)]
     rfl
    simp only[FS.put,Yz,Act.put];grind
   ·simp only[FS.put,Act.put,if_neg i];have e:(a.tmps.setIfInBounds d v').getD t undef=a.tmps.getD t undef:=by
     simp only[Wi];rw[V6 (λ e=>i e.symm)]
    rw[e];exact h.tm t
  ·simp[Act.put,h.sz]
  ·have:=h.df.2.1 t i;simp only[Act.put,Wi]at this⊢;grind
theorem Inv.iC{S S':Nat→Prop}{ι ι':bp}{un sL:Nat→Prop}{f:FS}{a:Act}{w w':World}{cr:Nat→Option AO}
 (h:Inv C S ι un f a w) (i:∀b,S b→S' b) (p:gA S w w') (hι:ι.le ι')
 (ob:∀o x,cr o=some x→cX S' w' ι' o x)
 (own:∀o x,cr o=some x→x.live=true→∀l,ι' o=some (some l)→∀b,c6 w' x l b→C.Ow b∧¬S' b∧b<w'.heap.size)
 (inj:∀o o' x x',cr o=some x→cr o'=some x'→x.live=true→x'.live=true→
  ∀l l',ι' o=some (some l)→ι' o'=some (some l')→∀b,c6 w' x l b→c6 w' x' l' b→o=o')
 (sb:∀b,S' b→b<w'.heap.size) (sn:∀b,S' b→C.S0 b∨C.Ow b) (u:∀o,sL o→ι' o=none) (fr:Fr C.Ow C.w0 w'):
 Inv C S' ι' sL {f with os:=cr} a w':=
 ⟨λ t=>(h.tm t).mono i p hι,h.sz,⟨h.df.1,h.df.2.1,λ q y=>⟨i _ (h.df.2.2 q y).1,(p _ (h.df.2.2 q y).1).trans (h.df.2.2 q y).2⟩⟩,ob,own,inj,sb,sn,u,fr,h.fo,λ g row z=>(h.gv g row z).mono i p,λ b A=>i b (h.s0 b A),λ j L e=>hι _ _ (h.hj j L e)⟩
theorem Inv.less{S:Nat→Prop}{ι:bp}{un sL:Nat→Prop}{f:FS}{a:Act}{w:World}(h:Inv C S ι un f a w)(i:∀o,sL o→un o):
 Inv C S ι sL f a w:=
 ⟨h.tm,h.sz,h.df,h.ob,h.own,h.inj,h.sb,h.sn,λ o ho=>h.un o (i o ho),h.fr,h.fo,h.gv,h.s0,h.hj⟩
theorem Inv.drew{S:Nat→Prop}{ι:bp}{un:Nat→Prop}{f:FS}{a:Act}{w:World}(h:Inv C S ι un f a w):
 Inv C S ι un f a w.drew:=by
 have p:gA S w w.drew:=λ _ _=>rfl;refine⟨λ t=>(h.tm t).mono (λ _ x=>x) p (bp.le_refl _),h.sz,h.df,λ o x i=>(h.ob o x i).mono (λ _ x=>x) p (bp.le_refl _) (λ _ _ _ _ _=>rfl),
  λ o x i q l e b u=>h.own o x i q l e b (ft (w:=w) (w':=w.drew) (λ _ _=>rfl) u),λ o o' x x' i j q y l l' e B b u z=>h.inj o o' x x' i j q y l l' e B b (ft (w:=w) (w':=w.drew) (λ _ _=>rfl) u) (ft (w:=w) (w':=w.drew) (λ _ _=>rfl) z),h.sb,h.sn,h.un,⟨h.fr.os,h.fr.output,h.fr.size,h.fr.old⟩,h.fo,λ g row A=>(h.gv g row A).mono (λ _ x=>x) p,h.s0,h.hj⟩
theorem Inv.alloc{S:Nat→Prop}{ι:bp}{un:Nat→Prop}{f:FS}{a:Act}{w:World}(h:Inv C S ι un f a w)
 {id:Nat} (R:un id) (bB:Obj) (l:Loc) (Y:l.bB=w.heap.size) (x:AO) (_hx:x.live=true) (U:∀b,c6 (w.alloc bB) x l b→b=l.bB)
 (X:∀ι':bp,ι.le ι'→ι' id=some (some l)→cX S (w.alloc bB) ι' id x):
 ∃ι',ι.le ι'∧ι' id=some (some l)∧Inv C S ι' (λ o=>un o∧o≠id) {f with os:=bw f.os [(id,some x)]} a (w.alloc bB):=by
 have T:=h.un id R;refine⟨λ o=>if o=id then some (some l)else ι o,?_,by simp,?_⟩
 ·intro o y j;grind
 ·have hι:ι.le (λ o=>if o=id then some (some l)else ι o):=by
   intro o y j;by_cases e:o=id
   ·simp_all
   ·grind
  have B:∀b<w.heap.size,(w.alloc bB).heap[b]? =w.heap[b]? :=λ b i=>so w bB b i;have V:∀o x,f.os o=some x→o≠id:=by
   intro o x Z e;subst e;have:=h.ob o x Z;cases x with
   |rows p rs=>rcases this with ⟨q,_⟩|⟨l,bc,q,_⟩<;>(simp_all)
   |dD rs=>rcases this with ⟨q,_⟩|⟨l,bc,q,_⟩<;>(simp_all)
   |bm p es=>obtain⟨l,xs,c,q,_⟩:=this;simp_all
   |cw z fs hh=>obtain⟨l,xs,c,q,_⟩:=this;simp_all
   |cF es hh=>obtain⟨l,xs,c,q,_⟩:=this;simp_all
   |lit rs=>obtain⟨l,bc,q,_⟩:=this;simp_all
  refine h.iC (λ _ x=>x) (λ b i=>B b (h.sb b i)) hι ?_ ?_ ?_ (λ b i=>?_) h.sn (λ o ho=>?_) ?_
  ·intro o y j;simp only[bw]at j;by_cases e:o=id
   ·simp_all
   ·simp only[e,Ym]at j;refine(h.ob o y j).mono (λ _ x=>x) (λ b i=>B b (h.sb b i)) hι (λ l' A u b i=>B _ (h.own o y j u l' A b i).2.2)
  ·intro o y j M l' A b i;simp only[bw]at j;by_cases e:o=id
   ·subst e;simp only[Yz,Y5]at A;subst A;simp only[Yz,Y5]at j;subst j;obtain rfl:b=w.heap.size:=(U _ i).trans Y;refine⟨?_,λ hS=>?_,by simp⟩
    ·exact h.fo _ h.fr.size
    ·have:=h.sb _ hS;omega
   ·simp only[e,Ym]at j A;have:=h.own o y j M l' A b (ft (λ b i=>B b (h.own o y j M l' A b i).2.2) i);grind
  ·intro o o' y O j u E F l1 l2 e1 H b i J;simp only[bw]at j u;by_cases e:o=id<;>by_cases Q:o'=id
   ·rw[e,Q]
   ·subst e;simp only[Yz,Y5]at e1;simp only[Q,Ym]at u H;have:=(h.own o' O u F l2 H b (ft (λ b i=>B b (h.own o' O u F l2 H b i).2.2) J)).2.2;grind
   ·subst Q;simp only[Yz,Y5]at H;simp only[e,Ym]at j e1;have:=(h.own o y j E l1 e1 b (ft (λ b i=>B b (h.own o y j E l1 e1 b i).2.2) i)).2.2;grind
   ·simp only[e,Q,Ym]at j u e1 H;exact h.inj o o' y O j u E F l1 l2 e1 H b (ft (λ b i=>B b (h.own o y j E l1 e1 b i).2.2) i) (ft (λ b i=>B b (h.own o' O u F l2 H b i).2.2) J)
  ·have:=h.sb b i;grind
  ·simp only[ho.2,Ym];exact h.un o ho.1
  ·exact⟨h.fr.os,h.fr.output,by simp only[VL];have:=h.fr.size;omega,λ b i hn=>by
    rw[B b (by have:=h.fr.size;omega)];exact h.fr.old b i hn⟩
end
section
variable {S:Nat→Prop}{w w':World}{ι:bp}
def jB(S:Nat→Prop)(w w':World):Prop:=∀b,S b→∀j,fC w' b j=fC w b j
theorem cE.eu(o:jB S w w'){x:AV}{v:Value}
 (h:cE S w x v):cE S w' x v:=by
 induction h with
 |int k n=>exact .int k n
 |bool b=>exact .bool b
 |str s=>exact .str s
 |dK a=>exact .dK a
 |gG=>exact .gG
 |sl xs a cap sz bc iH cS hS hlen dC _ ih=>
  refine .sl xs a cap sz bc iH cS hS hlen (λ i j v z y=>?_) (λ i j r x v h1 u q=>ih i j r x v h1 u q);have hn:xs≠[]:=by intro e;subst e;simp at z
  rw[o _ (hS hn).1];grind
 |agg cs vs hl _ ih=>exact .agg cs vs hl ih
 |cx cs vs hl _ ih=>exact .cx cs vs hl ih
 |rp row off bB base bc hS hl dC _ ih=>
  refine .rp row off bB base bc hS hl (λ j v y=>?_) ih;rw[o _ hS]
  grind
 |fn f cap vs hl _ ih=>exact .fn f cap vs hl ih
 |eT v h=>exact .eT v h
 |undef v=>exact .undef v
 |eR p b h=>exact .eR p b h
theorem cz.eu(i:jB S w w'){x:AV}{v:Value}(h:cz S w ι x v):cz S w' ι x v:=by
 induction h with
 |cu x v h=>exact .cu x v (h.eu i)
 |agg cs vs hl _ ih=>exact .agg cs vs hl ih
 |cx cs vs hl _ ih=>exact .cx cs vs hl ih
 |fn f cap vs hl _ ih=>exact .fn f cap vs hl ih
 |ptr o r c l h=>exact .ptr o r c l h
 |fp o off len room cap a l h h1 h2 h3 h4 h5 ha=>exact .fp o off len room cap a l h h1 h2 h3 h4 h5 ha
 |bf o z cap a l h h2 h3 h4 hz ha=>exact .bf o z cap a l h h2 h3 h4 hz ha
 |fW o z a h=>exact .fW o z a h
 |jg o a h=>exact .jg o a h
 |bm o l h=>exact .bm o l h
theorem ka.eu{p:Bool}(o:jB S w w'){rs:List (List AV)}{bc:Nat→List Value}(h:ka p S w ι rs bc):
 ka p S w' ι rs bc:=by
 intro i r q;have:=h i r q;cases p
 ·simp only[YN,Ym]at this⊢;exact⟨this.1,λ j x v a b=>(this.2 j x v a b).eu o⟩
 ·simp only[Yz]at this⊢;exact⟨this.1,λ j x v a b=>(this.2 j x v a b).eu o⟩
def K8:AO→Bool
 |.cF .. =>true
 |_=>false
theorem cX.rq{o:Nat}{x:AO}(J:K8 x=false)(A:jB S w w')
 (H:∀l,ι o=some (some l)→x.live=true→∀b,c6 w x l b→w'.heap[b]? =w.heap[b]?) (h:cX S w ι o x):cX S w' ι o x:=by
 cases x with
 |rows p rs=>
  rcases h with ⟨h,rfl⟩|⟨l,bc,h1,M,C,y,B⟩
  ·exact .inl ⟨h,rfl⟩
  ·have e:=H l h1 rfl _ (.inl rfl);refine .inr ⟨l,bc,h1,M,λ j=>?_,⟨y.1,y.2.1,λ i j v E F=>?_⟩,B.eu A⟩
   ·rw[l9 e,Cy e];exact C j
   ·rw[l9 e];exact y.2.2 i j v E F
 |dD rs=>
  rcases h with ⟨h,rfl⟩|⟨l,bc,h1,M,C,y,B⟩
  ·exact .inl ⟨h,rfl⟩
  ·refine .inr ⟨l,bc,h1,M,C,⟨y.1,y.2.1,λ i j v E F=>?_⟩,B.eu A⟩;rw[A _ C];exact y.2.2 i j v E F
 |bm p es=>
  obtain⟨l,xs,u,h1,C,y,B⟩:=h;refine⟨l,xs,u,h1,by rw[H l h1 rfl _ (.inl rfl)];exact C,⟨y.1,λ i e x a b=>?_⟩,B⟩
  exact⟨(y.2 i e x a b).1.eu A,(y.2 i e x a b).2.1.eu A,λ hp=>((y.2 i e x a b).2.2 hp).eu A⟩
 |lit rs=>
  obtain⟨l,bc,h1,⟨c,R,C,y⟩,B,Y,h6,O,T⟩:=h;have e:=H l h1 rfl _ (.inl rfl);exact⟨l,bc,h1,⟨c,R,by simp_all,y⟩,B,Y,h6,⟨O.1,O.2.1,λ i j v E F=>by rw[l9 e];exact O.2.2 i j v E F⟩,T.eu A⟩
 |cF es hh=>cases J
 |cw z fs hh=>
  obtain⟨l,xs,u,h1,C,y,B⟩:=h;refine⟨l,xs,u,h1,by rw[H l h1 rfl _ (.inl rfl)];exact C,y,B.1,λ i e x he J=>?_,B.2.2⟩
  obtain⟨U,X,Z⟩:=B.2.1 i e x he J;refine⟨U.eu A,λ hn=>?_,λ q hq=>(Z q hq).eu A⟩;rcases X hn with h|⟨l2,k1,V,k2,bc,k3,k4,k5,k6⟩
  ·exact .inl h
  ·have e:=H l h1 rfl _ (.inr ⟨xs,u,i,x,C,J,hn,k1⟩);refine .inr ⟨l2,k1,V,k2.eu A,bc,k3,λ j=>?_,⟨k5.1,k5.2.1,λ i j v E F=>?_⟩,λ i r Q=>?_⟩
   ·rw[l9 e,Cy e];exact k4 j
   ·rw[l9 e];exact k5.2.2 i j v E F
   ·have:=k6 i r Q;simp only[Yz]at this⊢;exact⟨this.1,λ j x v a b=>(this.2 j x v a b).eu A⟩
theorem vS.eu{o:Nat}{g:GO}(p:jB S w w')
 (q:∀l,ι o=some (some l)→∀b,fz w l.bB g b→w'.heap[b]? =w.heap[b]?) (h:vS S w ι o g):vS S w' ι o g:=
 JW.2 ((JW.1 h).rq (by cases g<;>rfl) p (λ l i _ b j=>q l i b (Jm.2 j)))
theorem qF.eu(y:jB S w w'){gs:Gr}{v:Value}{ιg:bp}
 (u:∀b,ew w gs v b→w'.heap[b]? =w.heap[b]?) (h:qF S w gs v ιg):qF S w' gs v ιg:=by
 refine⟨h.root.eu y,λ k p g i=>⟨?_,?_⟩,λ k k' p p' g g' i j l l' q o b b1 x=>?_,h.ways,h.top⟩
 ·exact(h.ob k p g i).1.eu y (λ l q b z=>u b (h.bB i q z))
 ·rw[zo u (YO i) (r:=[]) rfl];exact(h.ob k p g i).2
 ·rw[zy (u _ (h.bB i q (CN _ _ _)))]at b1;rw[zy (u _ (h.bB j o (CN _ _ _)))]at x;exact h.inj k k' p p' g g' i j l l' q o b b1 x
theorem cX.eu{o:Nat}{x:AO}(J:jB S w w')
 (Q:∀l,ι o=some (some l)→x.live=true→∀b,c6 w x l b→w'.heap[b]? =w.heap[b]?) (h:cX S w ι o x):cX S w' ι o x:=by
 cases p:K8 x with
 |false=>exact h.rq p J Q
 |true=>
  cases x with
  |cF es hh=>
   obtain⟨l,xs,u,h1,z,C,M⟩:=h;have H:∀(i:Nat) e x b,es[i]? =some e→xs[i]? =some x→hh.map (·.1)≠some i→ew w e.2 x.val b→w'.heap[b]? =w.heap[b]? :=λ i e x b y p hn E=>Q l h1 rfl b (.inr ⟨xs,u,i,e,x,z,y,p,hn,E⟩);have O:∀(i:Nat) e x,es[i]? =some e→xs[i]? =some x→hh.map (·.1)≠some i→∀b,ew w' e.2 x.val b↔ew w e.2 x.val b:=λ i e x h1 z C b=>CQ (λ b R=>H i e x b h1 z C R)
   refine⟨l,xs,u,h1,by rw[Q l h1 rfl _ (.inl rfl)];exact z,C,M.len,λ i e x y p=>?_,λ i j e T x x' b y F p B hn A h1 z=>?_⟩
   ·obtain⟨h1,z,C⟩:=M.at_ i e x y p;refine⟨h1.eu J,λ hn=>?_,λ q V=>(C q V).eu J⟩;obtain⟨⟨ιg,U⟩,R⟩:=z hn
    exact⟨⟨ιg,U.eu J (λ b E=>H i e x b y p hn E)⟩,λ b E=>R b ((O i e x y p hn b).1 E)⟩
   ·exact M.inj i j e T x x' b y F p B hn A ((O i e x y p hn b).1 h1) ((O j T x' F B A b).1 z)
  |_=>cases p
def xz:Obj→Bool
 |.deferred _=>true
 |.loop _=>true
 |_=>false
theorem OY{b j:Nat}{o:Obj}(h:w.heap[b]? =some o)(ho:xz o=true):fC w b j=none:=by
 simp only[fC,World.cell?,h];cases o<;>first|rfl|(simp[xz]at ho)
theorem Zo8{D:Nat}{o o':Obj}(h:w.heap[D]? =some o)(ho:xz o=true)(i:xz o'=true):jB S w (w.putObj D o'):=by
 intro b _ j;by_cases e:b=D
 ·subst e;rw[OY h ho,OY (U8 (WO.1 h).1) i]
 ·exact l9 (WK e)
def Cx.with(C:Cx)(dfs:List Deferred)(qb:List (Nat×Obj)):Cx:={C with dfs:=dfs,qb:=qb}
def mark(D:Nat):Deferred:={target:=.collected D,args:=#[]}
def Cx.fV(C:Cx)(D:Nat):Cx:={C with N:={C.N with no:=true},dfs:=[mark D],qb:=[(D,.deferred (some []))]}
inductive Cx.to(C:Cx):Cx→Prop
 |refl:C.to C
 |fV (D:Nat) (h:C.N.no=false) (hO:C.Ow D):C.to (C.fV D)
theorem Inv.tN{C:Cx}{un:Nat→Prop}{f:FS}{a a':Act}(h:Inv C S ι un f a w){D:Nat}{o o':Obj}{dfs:List Deferred}{qb:List (Nat×Obj)}
 (V:S D) (T:C.Ow D) (J:w.heap[D]? =some o) (ho:xz o=true) (H:xz o'=true) (E:a'.tmps=a.tmps) (F:a'.defers=dfs)
 (X:∀q∈qb,S q.1∧(w.putObj D o').heap[q.1]? =some q.2):Inv (C.with dfs qb) S ι un f a' (w.putObj D o'):=by
 have A:jB S w (w.putObj D o'):=Zo8 J ho H;have j:∀o x,f.os o=some x→x.live=true→∀l,ι o=some (some l)→∀b,c6 w x l b→(w.putObj D o').heap[b]? =w.heap[b]? :=λ o x p i l z b u=>
  WK (λ e=>(h.own o x p i l z b u).2.1 (e▸V))
 refine⟨λ t=>by rw[E];exact(h.tm t).eu A,by rw[E];exact h.sz,⟨F,λ t B=>by rw[E];exact h.df.2.1 t B,X⟩,λ o x p=>(h.ob o x p).eu A (λ l z i b u=>?_),
  λ o x p i l z b u=>?_,λ o o' x x' p y h1 M l l' e1 O b b1 R=>h.inj o o' x x' p y h1 M l l' e1 O b (ft (j o x p h1 l e1) b1) (ft (j o' x' y M l' O) R),λ b u=>by rw[World.putObj_size];exact h.sb b u,h.sn,h.un,⟨h.fr.os,h.fr.output,by rw[World.putObj_size];exact h.fr.size,λ b u hn=>?_⟩,h.fo,
  λ g row Q=>⟨(h.gv g row Q).1.eu A,by
   obtain⟨cs,t,fr,e,es⟩:=(h.gv g row Q).2;refine⟨cs,t,fr,(WK (λ U=>?_)).trans e,es⟩;subst U
   rw[J]at e;injection e with e;subst e;simp[xz]at ho⟩,h.s0,h.hj⟩
 ·grind
 ·rw[World.putObj_size];exact h.own o x p i l z b (ft (j o x p i l z) u)
 ·rw[WK (λ e=>hn (by subst e;exact T))];exact h.fr.old b u hn
theorem Inv.lay{C:Cx}{un:Nat→Prop}{f:FS}{a a':Act}(h:Inv C S ι un f a w)(o:Obj){dfs:List Deferred}{qb:List (Nat×Obj)}
 (A:a'.tmps=a.tmps) (H:a'.defers=dfs) (R:∀q∈qb,(S q.1∨q.1=w.heap.size)∧(w.alloc o).heap[q.1]? =some q.2):
 Inv (C.with dfs qb) (λ b=>S b∨b=w.heap.size) ι un f a' (w.alloc o):=by
 have E:gA S w (w.alloc o):=λ b i=>so w o b (h.sb b i);have B:∀b,S b→(S b∨b=w.heap.size):=λ b i=>.inl i
 have p:∀o' x,f.os o'=some x→x.live=true→∀l,ι o'=some (some l)→∀b,c6 w x l b→(w.alloc o).heap[b]? =w.heap[b]? :=λ o' x u j l y b i=>
  so w o b (h.own o' x u j l y b i).2.2
 refine⟨λ t=>by rw[A];exact(h.tm t).mono B E (bp.le_refl _),by rw[A];exact h.sz,⟨H,λ t F=>by rw[A];exact h.df.2.1 t F,R⟩,
  λ o x u=>(h.ob o x u).mono B E (bp.le_refl _) (λ l y j b i=>so w _ b (h.own o x u j l y b i).2.2),
  λ o x u j l y b i=>?_,λ o o' x x' u z h1 J l l' e1 M b b1 O=>h.inj o o' x x' u z h1 J l l' e1 M b (ft (p o x u h1 l e1) b1) (ft (p o' x' z J l' M) O),λ b i=>?_,λ b i=>?_,h.un,⟨h.fr.os,h.fr.output,?_,λ b i hn=>?_⟩,h.fo,
  λ g row Q=>(h.gv g row Q).mono B E,λ b i=>.inl (h.s0 b i),h.hj⟩
 ·have:=h.own o x u j l y b (ft (p o x u j l y) i);refine⟨this.1,λ hS=>?_,by rw[VL];omega⟩
  simp_all
 ·rw[VL];rcases i with i|i
  ·have:=h.sb b i;omega
  ·omega
 ·rcases i with i|i
  ·exact h.sn b i
  ·exact .inr (i▸h.fo _ h.fr.size)
 ·rw[VL];have:=h.fr.size;exact Nat.le_succ_of_le this
 ·rw[so w o b (Wx i h.fr.size)];exact h.fr.old b i hn
end
section
variable {S:Nat→Prop}{cs:List AV}{l:Loc}{vs:List Value}{w:World}{ι:bp}
def iy:AV→Bool
 |.int .. |.bool _|.str _|.dK|.sl _|.rp .. |.eT _|.undef|.eR _=>true
 |.fn _ c=>c.isEmpty
 |_=>false
theorem cz.free{x:AV}{v:Value}(h:cz S w ι x v)(i:iy x=true):cE S w x v:=by
 cases h with
 |cu _ _ h=>exact h
 |fn f cap vs hl h=>
  simp only[iy,List.isEmpty_iff]at i;subst i;exact .fn f [] vs hl (λ j x v o=>by simp at o)
 |_=>simp[iy]at i
theorem bA.free(h:bA S w ι cs vs)(o:cs.all iy=true):cy S w cs vs:=
 ⟨h.1,λ j x v i p=>(h.2 j x v i p).free (YW.1 o x (YO i))⟩
def vX:AV→Bool
 |.agg cs=>cs.all iy
 |x=>iy x
theorem cz.rX{x:AV}{v:Value}(h:cz S w ι x v)(i:vX x=true):cE S w x v:=by
 cases x with
 |agg cs=>
  obtain⟨vs,rfl,o⟩:=h.eg;have:=o.free i;exact .agg _ _ (by simpa using this.1) (λ j x v p hv=>this.2 j x v p (by simp_all))
 |_=>exact h.free i
def setAt{α:Type}(row:List α)(c:Nat)(xs:List α):List α:=row.take c++(xs++row.drop (c+xs.length))
theorem u6{α:Type}(row:List α)(c:Nat)(xs:List α)(h:c+xs.length≤row.length):(setAt row c xs).length=row.length:=by
 simp[setAt];omega
theorem xV{α:Type}(row:List α)(c:Nat)(xs:List α)(h:c+xs.length≤row.length)(j:Nat):
 (setAt row c xs)[j]? =if c≤j∧j<c+xs.length then xs[j-c]? else row[j]? :=by
 unfold setAt;grind
theorem bA.setAt{row:List AV}{us:List Value}(c:Nat)(h:bA S w ι row us)(q:bA S w ι cs vs)
 (i:c+cs.length≤row.length):bA S w ι (setAt row c cs) (Ab.setAt us c vs):=by
 have h1:=h.1;have u:=q.1;refine⟨by rw[u6 _ _ _ i,u6 _ _ _ (by omega)];exact h1,λ j x v p o=>?_⟩
 rw[xV _ _ _ i]at p;rw[xV _ _ _ (by omega),←u]at o
 split at p
 ·rename_i hj;rw[if_pos hj]at o;exact q.2 _ x v p o
 ·rename_i hj;rw[if_neg hj]at o;exact h.2 j x v p o
theorem cy.setAt{row:List AV}{us:List Value}(c:Nat)(h:cy S w row us)(q:cy S w cs vs)
 (i:c+cs.length≤row.length):cy S w (Ab.setAt row c cs) (Ab.setAt us c vs):=by
 have h1:=h.1;have u:=q.1;refine⟨by rw[u6 _ _ _ i,u6 _ _ _ (by omega)];exact h1,λ j x v p o=>?_⟩
 rw[xV _ _ _ i]at p;rw[xV _ _ _ (by omega),←u]at o
 split at p
 ·rename_i hj;rw[if_pos hj]at o;exact q.2 _ x v p o
 ·rename_i hj;rw[if_neg hj]at o;exact h.2 j x v p o
theorem Z7{k i e j c n:Nat}(o:k≠i)(hj:j<e)(hc:c+n≤e):k*e+j<i*e+c∨i*e+c+n≤k*e+j:=by
 rcases Nat.lt_or_gt_of_ne o with h|h
 ·left;have:(k+1)*e≤i*e:=YK e h;grind
 ·right;have:(i+1)*e≤k*e:=YK e h;grind
theorem lh.setCells(h:lh w l)(lo:Nat)(vs:List Value):lh (w.setCells l.bB lo vs) l:=by
 intro j;refine⟨λ hj=>?_,by rw[World.frozen?_setCells];exact(h j).2⟩
 obtain⟨v,hv⟩:=(h j).1 hj;exact Wj.1 (World.isSome_setCells l.bB vs lo w ⟨l.bB,j,none⟩ (by simp_all))
section
variable {C:Cx}{S:Nat→Prop}{ι:bp}{un:Nat→Prop}{f:FS}{a:Act}{w:World}
theorem PO{b:Nat}(j:¬S b)(sb:∀b,S b→b<w.heap.size)(lo:Nat)(vs:List Value):gA S w (w.setCells b lo vs):=by
 intro c i;exact V3 w b lo vs (sb c i) (λ e=>j (e▸i))
theorem zP(w:World)(b:Nat):∀(vs:List Value) (lo:Nat),(w.setCells b lo vs).heap.size=w.heap.size:=by
 intro vs;induction vs generalizing w with
 |nil=>intro lo;rfl
 |cons v r ih=>intro lo;rw[World.setCells,ih];simp
theorem Inv.writes(h:Inv C S ι un f a w){o:Nat}{x x':AO}(V:f.os o=some x)(q:x.live=true)(J:ι o=some (some l))
 (_hlive':x'.live=true) (lo:Nat) (vs:List Value)
 (mM:gA S w (w.setCells l.bB lo vs)→cX S (w.setCells l.bB lo vs) ι o x') (O:xx x'=true:=by rfl):
 Inv C S ι un {f with os:=bw f.os [(o,some x')]} a (w.setCells l.bB lo vs):=by
 obtain⟨hO,hS,Z⟩:=h.own o x V q l J _ (.inl rfl);have Y:gA S w (w.setCells l.bB lo vs):=PO hS h.sb lo vs;have u:∀o' y,f.os o'=some y→y.live=true→o'≠o→∀l',ι o'=some (some l')→∀b,c6 w y l' b→(w.setCells l.bB lo vs).heap[b]? =w.heap[b]? :=λ o' y A B e l' i b z=>
  V3 w _ lo vs (h.own o' y A B l' i b z).2.2 (λ eb=>e (h.inj o' o y x A V B q l' l i J b z (.inl eb)))
 refine h.iC (λ _ x=>x) Y (bp.le_refl _) ?_ ?_ ?_ (λ b z=>by rw[zP];exact h.sb b z) h.sn h.un ?_
 ·intro o' y A;simp only[bw]at A;by_cases e:o'=o
  ·simp_all
  ·simp only[e,Ym]at A;refine(h.ob o' y A).mono (λ _ x=>x) Y (bp.le_refl _) (λ l' i uc b z=>?_);grind
 ·intro o' y A B l' i b z;rw[zP];simp only[bw]at A;by_cases e:o'=o
  ·subst e;rw[J]at i;injection i with i;injection i with i;subst i;simp only[Yz,Y5]at A;subst A;rw[iY O z];simp_all
  ·simp only[e,Ym]at A;exact h.own o' y A B l' i b (ft (u o' y A B e l' i) z)
 ·intro R Q X U j p F H l1 l2 e1 E b z M;simp only[bw]at j p;by_cases e:R=o<;>by_cases T:Q=o
  ·rw[e,T]
  ·subst e;simp only[T,Ym]at p;simp only[Yz,Y5]at j;subst j;rw[J]at e1;injection e1 with e1;injection e1 with e1;subst e1;exact h.inj R Q x U V p q H l l2 J E b (.inl (iY O z)) (ft (u Q U p H T l2 E) M)
  ·subst T;simp only[e,Ym]at j;simp only[Yz,Y5]at p;subst p;rw[J]at E;injection E with E;injection E with E;subst E;exact h.inj R Q X x j V F q l1 l e1 J b (ft (u R X j F e l1 e1) z) (.inl (iY O M))
  ·simp only[e,T,Ym]at j p;exact h.inj R Q X U j p F H l1 l2 e1 E b (ft (u R X j F e l1 e1) z) (ft (u Q U p H T l2 E) M)
 ·refine⟨by rw[World.os_setCells];exact h.fr.os,by rw[World.output_setCells];exact h.fr.output,by rw[zP];exact h.fr.size,λ b z hn=>?_⟩
  rw[V3 w _ lo vs (by have:=h.fr.size;omega) (λ e=>hn (by simp_all))]
  exact h.fr.old b z hn
theorem Inv.changes{w':World}(h:Inv C S ι un f a w){o:Nat}{x x':AO}(Z:f.os o=some x)(q:x.live=true)(M:ι o=some (some l))
 (_hlive':x'.live=true) (Bg:w'.os=w.os) (X:w'.output=w.output) (z:w'.heap.size=w.heap.size) (R:∀b,b≠l.bB→w'.heap[b]? =w.heap[b]?)
 (mM:gA S w w'→cX S w' ι o x') (Q:xx x'=true:=by rfl):
 Inv C S ι un {f with os:=bw f.os [(o,some x')]} a w':=by
 obtain⟨hO,hS,iU⟩:=h.own o x Z q l M _ (.inl rfl);have hw:gA S w w':=λ b A=>R b (λ e=>hS (e▸A));have u:∀o' y,f.os o'=some y→y.live=true→o'≠o→∀l',ι o'=some (some l')→∀b,c6 w y l' b→w'.heap[b]? =w.heap[b]? :=λ o' y B H e l' i b A=>
  R b (λ eb=>e (h.inj o' o y x B Z H q l' l i M b A (.inl eb)))
 refine h.iC (λ _ x=>x) hw (bp.le_refl _) ?_ ?_ ?_ (λ b A=>by rw[z];exact h.sb b A) h.sn h.un ?_
 ·intro o' y B;simp only[bw]at B;by_cases e:o'=o
  ·simp_all
  ·simp only[e,Ym]at B;refine(h.ob o' y B).mono (λ _ x=>x) hw (bp.le_refl _) (λ l' i uc b A=>?_);grind
 ·intro o' y B H l' i b A;rw[z];simp only[bw]at B;by_cases e:o'=o
  ·subst e;rw[M]at i;injection i with i;injection i with i;subst i;simp only[Yz,Y5]at B;subst B;rw[iY Q A];simp_all
  ·simp only[e,Ym]at B;exact h.own o' y B H l' i b (ft (u o' y B H e l' i) A)
 ·intro U T y1 Y j p F J l1 l2 e1 E b A O;simp only[bw]at j p;by_cases e:U=o<;>by_cases V:T=o
  ·rw[e,V]
  ·subst e;simp only[V,Ym]at p;simp only[Yz,Y5]at j;subst j;rw[M]at e1;injection e1 with e1;injection e1 with e1;subst e1;exact h.inj U T x Y Z p q J l l2 M E b (.inl (iY Q A)) (ft (u T Y p J V l2 E) O)
  ·subst V;simp only[e,Ym]at j;simp only[Yz,Y5]at p;subst p;rw[M]at E;injection E with E;injection E with E;subst E;exact h.inj U T y1 x j Z F q l1 l e1 M b (ft (u U y1 j F e l1 e1) A) (.inl (iY Q O))
  ·simp only[e,V,Ym]at j p;exact h.inj U T y1 Y j p F J l1 l2 e1 E b (ft (u U y1 j F e l1 e1) A) (ft (u T Y p J V l2 E) O)
 ·refine⟨Bg.trans h.fr.os,X.trans h.fr.output,by rw[z];exact h.fr.size,λ b A hn=>?_⟩
  rw[R b (λ e=>hn (by simp_all))]
  exact h.fr.old b A hn
theorem OR{o:Nat}{p:Bool}{rs:List (List AV)}{bc:Nat→List Value}(hl:ι o=some (some l))(Z:rs.length=l.eA)(hm:lh w l)
 (z:p9 w l rs.length bc) (A:ka p S w ι rs bc) {i c:Nat} {row:List AV} (C:rs[i]? =some row)
 (B:bA S w ι cs vs) (Y:∀v∈vs,v.oneCell'=true) (X:c+cs.length≤row.length) (H:gA S w (w.setCells l.bB (l.base+(i*l.bX+c)) vs)):
 cX S (w.setCells l.bB (l.base+(i*l.bX+c)) vs) ι o (.rows (p&&cs.all iy) (rs.set i (setAt row c cs))):=by
 have U:i<rs.length:=by
  rcases Wo i rs.length with h|h
  ·exact h
  ·simp_all
 have Ln:row.length=(bc i).length:=by
  have:=A i row C;cases p<;>exact this.1
 have T:=z.2.1 i U;have ng:=B.1;have fg:l.base+(i*l.bX+c)+vs.length≤l.size:=by
  have:(i+1)*l.bX≤rs.length*l.bX:=YK _ U;rw[Wg]at this;have:=z.1;omega
 have R:∀(k:Nat) r,(rs.set i (setAt row c cs))[k]? =some r→(k=i∧r=setAt row c cs)∨(k≠i∧rs[k]? =some r):=by
  intro k r O;rw[U2]at O;by_cases e:i=k
  ·simp_all
  ·grind
 refine .inr ⟨l,λ k=>if k=i then setAt (bc i) c vs else bc k,hl,by simp_all,hm.setCells _ _,⟨by simpa using z.1,λ k J=>?_,λ k j v J E=>?_⟩,λ k r O=>?_⟩
 ·simp only[Vu]at J;by_cases e:k=i
  ·subst e;simp only[Yz];rw[u6 _ _ _ (by omega)];exact T
  ·simp only[e,Ym];exact z.2.1 k J
 ·simp only[Vu]at J;by_cases e:k=i
  ·subst e;simp only[Yz]at E;rw[xV _ _ _ (by omega)]at E
   by_cases hj:c≤j∧j<c+vs.length
   ·rw[if_pos hj]at E;have F:j-c<vs.length:=by omega
    have:=V9 l.bB vs (l.base+(k*l.bX+c)) w (λ q hq=>by
     obtain⟨u,hu⟩:=(hm (l.base+(k*l.bX+c)+q)).1 (by omega)
     simp_all) (j-c) F
    grind
   ·rw[if_neg hj]at E;have Q:=z.2.2 k j v U E;refine⟨?_,Q.2⟩;show(w.setCells l.bB (l.base+(k*l.bX+c)) vs).cell? _=some v;rw[Wy l.bB vs _ w _ (λ _ _=>by grind)]
    exact Q.1
  ·simp only[e,Ym]at E;have F:j<l.bX:=by
    rw[←z.2.1 k J];rcases Wo j (bc k).length with h|h
    ·exact h
    ·simp_all
   have Q:=z.2.2 k j v J E;refine⟨?_,Q.2⟩;show(w.setCells l.bB (l.base+(i*l.bX+c)) vs).cell? _=some v;have:=Z7 (n:=vs.length) (c:=c) e F (by omega)
   rw[Wy l.bB vs _ w _ (λ _ _=>by grind)]
   exact Q.1
 ·rcases R k r O with ⟨rfl,rfl⟩|⟨V,O⟩
  ·simp only[Yz];have y:=A k row C;cases hp:p with
   |false=>
    rw[hp]at y;simp only[Bool.false_and,YN,Ym]at y⊢;exact(bA.setAt c y B X).mono (λ _ x=>x) H (bp.le_refl _)
   |true=>
    rw[hp]at y;simp only[Bool.true_and,Yz]at y⊢;by_cases M:cs.all iy=true
    ·rw[if_pos M];exact(cy.setAt c y (B.free M) X).mono (λ _ x=>x) H
    ·rw[if_neg M];exact(bA.setAt c y.rep B X).mono (λ _ x=>x) H (bp.le_refl _)
  ·simp only[V,Ym];have y:=A k r O;cases hp:p with
   |false=>
    rw[hp]at y;simp only[Bool.false_and,YN,Ym]at y⊢;exact y.mono (λ _ x=>x) H (bp.le_refl _)
   |true=>
    rw[hp]at y;simp only[Bool.true_and,Yz]at y⊢;by_cases M:cs.all iy=true
    ·rw[if_pos M];exact y.mono (λ _ x=>x) H
    ·rw[if_neg M];exact y.rep.mono (λ _ x=>x) H (bp.le_refl _)
end
end
end Go.Ab
