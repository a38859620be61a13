import Derived.Test.YthohllgoneadhaaGreatDoorAbH
import Derived.Shelf.Spec.SlicesInsert
import Derived.Lib.AppendZerosOnto
import Derived.Lib.Overlaps
import Derived.Laws.NewBlocks
import Derived.Test.YthohllgoneadhaaGreatDoorAbI
namespace Go.Ab
open Go.Proofs
theorem ZbH {P : Program} (w : World) (dT sT ty elem : TypeId) (sz n b o dLen dCap : Nat) (a : Addr) (sLen sCap : Nat) (cs : List Value)
    (hu:P.underlying dT=some (.slice elem)) (hs:(P.info? elem).map (·.size)=some sz) (hm:Nat.min sLen dLen=n) (hn:cs.length=n * sz)
    (hsrc:∀ j v,cs[j]? = some v→w.cell? (a.add j)=some v) (hc:∀ j,j<cs.length→(w.cell? ⟨b,o+j,none⟩).isSome=true) (hf:∀ j,j<cs.length→w.frozen? ⟨b,o+j,none⟩=false) (h1:∀ v∈cs,v.oneCell'=true) :
    (Builtin.copy_ #[dT,sT] ty #[.slice (some ⟨b,o,none⟩) dLen dCap,.slice (some a) sLen sCap]).run P w = .ok (goInt n) (w.setCells b o cs):=by
  have hst:=run_storeCells_cells (P:=P) b o cs 0 w (by simpa using hc) (by simpa using hf) h1
  have hfc:(Builtin.firstCells sz n (.slice (some a) sLen sCap)).run P w = .ok cs.toArray w:=run_firstCells_some w sz n a sLen sCap cs hn hsrc
  cases hq:P.info? elem with
  | none=>simp [hq] at hs
  | some i =>
    have hi:i.size=sz:=by simpa [hq] using hs
    simp [Builtin.copy_,run_underlying hu,Builtin.lenOf,sizeOf,typeInfo,hq,hi,hm,hfc,hst]
theorem Zi6 {P : Program} (w : World) (t e ty : TypeId) (i : TypeInfo) (z : Value) (ht : P.underlying t = some (.slice e)) (hi : P.info? e = some i) (hz : i.zero = some z) (b o c : Nat) (zs : List Value)
    (hzs:(Builtin.zeroCells z.cells 1).toList=zs) (h1:∀ v∈zs,v.oneCell'=true)
    (hc:∀ j,j<zs.length→(w.cell? ⟨b,o+j,none⟩).isSome=true) (hf:∀ j,j<zs.length→w.frozen? ⟨b,o+j,none⟩=false) :
    (Builtin.clear_ #[t] ty #[.slice (some ⟨b,o,none⟩) 1 c]).run P w = .ok (.tuple #[]) (w.setCells b o zs):=by
  have hst:=run_storeCells_cells (P:=P) b o zs 0 w (by simpa using hc) (by simpa using hf) h1
  simp only [Nat.add_zero] at hst
  simp [Builtin.clear_,run_underlying ht,zeroValue,typeInfo,hi,hz,hzs,hst]
structure InsOk (P:Program) (f:Nat) (e:TypeId) (sz:Nat):Prop where
  call:callB P f=true
  shift:∀ (b off n c i vb voff vc:Nat) (cs vs:List Value) (w:World),i<n→n+1≤c→n<LIM→vb≠b→cs.length=n * sz→vs.length=sz →
    (∀ (j:Nat) v,cs[j]? = some v→w.cell? ⟨b,off+j,none⟩=some v)→(∀ j,j<(n+1) * sz→(w.cell? ⟨b,off+j,none⟩).isSome=true)→(∀ j,j<(n+1) * sz→w.frozen? ⟨b,off+j,none⟩=false) →
    (∀ (j:Nat) v,vs[j]? = some v→w.cell? ⟨vb,voff+j,none⟩=some v)→(∀ v∈cs,v.oneCell'=true)→(∀ v∈vs,v.oneCell'=true)→(∀ j,w.frozen? ⟨vb,j,none⟩=false) →
    Calls P f #[.slice (some ⟨b,off,none⟩) n c,.int .i64 i,.slice (some ⟨vb,voff,none⟩) 1 vc] w fun e w' =>
      e = .returned (.slice (some ⟨b,off,none⟩) (n+1) c)∧w'=(w.drew.setCells b (off+(i+1) * sz) (cs.drop (i * sz))).setCells b (off+i * sz) vs
  endr:∀ (b off n c vb voff vc:Nat) (vs:List Value) (w:World),n+1≤c→vs.length=sz →
    (∀ j,j<sz→(w.cell? ⟨b,off+n * sz+j,none⟩).isSome=true)→(∀ j,j<sz→w.frozen? ⟨b,off+n * sz+j,none⟩=false) →
    (∀ (j:Nat) v,vs[j]? = some v→w.cell? ⟨vb,voff+j,none⟩=some v)→(∀ v∈vs,v.oneCell'=true) →
    Calls P f #[.slice (some ⟨b,off,none⟩) n c,.int .i64 n,.slice (some ⟨vb,voff,none⟩) 1 vc] w fun e w' =>
      e = .returned (.slice (some ⟨b,off,none⟩) (n+1) c)∧w'=w.setCells b (off+n * sz) vs
  grow:∀ (b off n c i vb voff vc:Nat) (cs vs:List Value) (w:World),i<n→n≤c→c<n+1→n<LIM→cs.length=n * sz→vs.length=sz →
    (∀ (j:Nat) v,cs[j]? = some v→w.cell? ⟨b,off+j,none⟩=some v)→(∀ (j:Nat) v,vs[j]? = some v→w.cell? ⟨vb,voff+j,none⟩=some v)→(∀ v∈cs,v.oneCell'=true)→(∀ v∈vs,v.oneCell'=true) →
    Calls P f #[.slice (some ⟨b,off,none⟩) n c,.int .i64 i,.slice (some ⟨vb,voff,none⟩) 1 vc] w fun e' w' =>
      ∃ (cap:Nat) (rest:List Value),e' = .returned (.slice (some ⟨w.heap.size,0,none⟩) (n+1) cap)∧n+1≤cap∧cap * sz=((cs.take (i * sz))++rest).length∧(n+1) * sz≤((cs.take (i * sz))++rest).length ∧
        w'=(((w.alloc (.cells (cs.take (i * sz)++rest).toArray e)).drew.setCells w.heap.size (i * sz) vs).drew).setCells w.heap.size ((i+1) * sz) (cs.drop (i * sz))
  endg:∀ (base:Option Addr) (n c vb voff vc:Nat) (cs vs:List Value) (w:World),n≤c→c<n+1→n<LIM→cs.length=n * sz→vs.length=sz→(base=none→n=0) →
    (∀ a,base=some a→∀ (j:Nat) v,cs[j]? = some v→w.cell? (a.add j)=some v)→(∀ (j:Nat) v,vs[j]? = some v→w.cell? ⟨vb,voff+j,none⟩=some v)→(∀ v∈vs,v.oneCell'=true) →
    Calls P f #[.slice base n c,.int .i64 n,.slice (some ⟨vb,voff,none⟩) 1 vc] w fun e' w' =>
      ∃ (cap:Nat) (rest:List Value),e' = .returned (.slice (some ⟨w.heap.size,0,none⟩) (n+1) cap)∧n+1≤cap∧cap * sz=((cs++vs)++rest).length∧w'=w.drew.alloc (.cells (cs++vs++rest).toArray e)
theorem ZgO {S0 : Nat → Prop} {ι0 : Imap} {w0 w' : World} {oin : Os} {k z : Nat} {p : Bool} {R : List (List AV)} {us : List Value} {L : Loc} {cap : Nat}
    (hs0:∀ b,S0 b→b<w0.heap.size) (hι:∀ o,oin.length≤o→ι0 o=none) (hk:oin.length≤k) (hkW:k<W)
    (hfr:Fr (OwOf w0 ι0 oin) w0 w') (hnew:OwOf w0 ι0 oin L.blk) (hS:¬ S0 L.blk) (hlt:L.blk<w'.heap.size)
    (hcnt:R.length=L.cnt) (hm:Mine w' L) (hF:Flat p S0 w' ι0 L.esz R us) (hc:∀ (j:Nat) v,us[j]? = some v→Zbr w' L.blk (L.base+j)=some v)
    (h1:R.length≤cap) (h2:L.base+cap * L.esz≤L.size) (h3:R.length≤LIM) (h0:R.length=0→L.esz=z) :
    ∃ v S' ι',Ending.returned (.slice (some ⟨L.blk,L.base,none⟩) R.length cap) = .returned v∧Fr (OwOf w0 ι0 oin) w0 w' ∧
      (∀ b,S' b→(S0 b∨OwOf w0 ι0 oin b)∧b<w'.heap.size)∧(∀ b,S0 b→S' b)∧ι0.le ι'∧(∀ o,W≤o→ι' o=none) ∧
      Rep S' w' ι' (.osw k z) v∧Zf7 (OwOf w0 ι0 oin) S' w' ι' (lk [(k,.rows p R)]):=by
  have hle:ι0.le (fun o=>if o=k then some (some L) else ι0 o):=fun o x e=>by
    by_cases h:o=k
    · subst h;rw [hι o hk] at e;cases e
    · simp only [h,if_false];exact e
  have hlk:∀ o x,lk [(k,AO.rows p R)] o=some x→o=k∧x = .rows p R:=fun o x h=>by
    simp only [lk] at h
    split at h
    · rename_i e;injection h with h;exact ⟨e,h.symm⟩
    · cases h
  have hik:(fun o=>if o=k then some (some L) else ι0 o) k=some (some L):=by simp
  refine ⟨_,S0,_,rfl,hfr,fun b hb=>⟨.inl hb,Nat.lt_of_lt_of_le (hs0 b hb) hfr.size⟩,fun _ h=>h,hle,fun o ho=>?_,?_,⟨?_,?_,?_⟩⟩
  · have:o≠k:=by omega
    simp only [this,if_false]
    exact hι o (by omega)
  · have hR : Rep S0 w' (fun o => if o = k then some (some L) else ι0 o) (.osw k z) (.slice (some ⟨L.blk, L.base, none⟩) L.cnt cap) :=
      Rep.osw k z cap _ _ hik (by omega) h2 (by omega) (fun h _=>h0 (by omega)) (fun _=>rfl)
    rw [hcnt]
    exact hR
  · intro o x hx
    obtain ⟨rfl,rfl⟩:=hlk o x hx
    have hF':=hF.mono (fun _ h=>h) (fun _ _=>rfl) hle
    refine .inr ⟨L,_,hik,hcnt,hm,hF'.at hc ?_,hF'.rows⟩
    have:R.length * L.esz≤cap * L.esz:=Nat.mul_le_mul_right _ h1
    omega
  · intro o x hx _ l hl b hb
    obtain ⟨rfl,rfl⟩:=hlk o x hx
    have hl2:=hik.symm.trans hl;injection hl2 with hl;injection hl with hl;subst hl
    obtain rfl:=Zb0 rfl hb
    exact ⟨hnew,hS,hlt⟩
  · intro o o' x x' hx hx' _ _ l l' _ _ _ _ _
    rw [(hlk o x hx).1,(hlk o' x' hx').1]
theorem Zga {w:World} {b j:Nat} {v:Value} (h:w.cell? ⟨b,j,none⟩=some v):∃ t k,w.shape? b=some (t,k)∧k≠0:=by
  unfold World.cell? at h
  unfold World.shape?
  split at h
  · rename_i c t f hc
    simp only [Option.isSome_none,Bool.false_eq_true,if_false] at h
    refine ⟨t,c.size,by simp only at hc;rw [hc],?_⟩
    have:=(Array.getElem?_eq_some_iff.1 h).1
    omega
  · cases h
theorem ZiD {w : World} {b o1 o2 : Nat} {xs bs cs : List Value} {off : Nat} (h1 : ∀ j, j < (xs ++ bs ++ cs).length → (w.cell? ⟨b, off + j, none⟩).isSome = true)
    (ha:∀ (j:Nat) v,xs[j]? = some v→w.cell? ⟨b,off+j,none⟩=some v) (e2:o2=off+xs.length) (e1:o1=off+xs.length+bs.length) :
    ∀ (j:Nat) v,(xs++bs++cs)[j]? = some v→((w.setCells b o1 cs).setCells b o2 bs).cell? ⟨b,off+j,none⟩=some v:=by
  subst e1;subst e2
  simp only [List.length_append] at h1
  have i1:∀ j,j<(xs++bs++cs).length→((w.setCells b (off+xs.length+bs.length) cs).cell? ⟨b,off+j,none⟩).isSome=true:=fun j hj=>by
    simp only [List.length_append] at hj
    exact isSome_setCells b cs _ w (fun t ht=>by have:=h1 (xs.length+bs.length+t) (by omega);rwa [show off+(xs.length+bs.length+t)=off+xs.length+bs.length+t by omega] at this) _ (h1 j (by omega))
  intro j v hv
  have hj:=ZaQ hv
  simp only [List.length_append] at hj
  by_cases c1:j<xs.length
  · rw [List.append_assoc,List.getElem?_append_left c1] at hv
    rw [World.cell?_setCells_out b bs _ _ _ (fun _ _=>.inl (by simp only;omega)),World.cell?_setCells_out b cs _ _ _ (fun _ _=>.inl (by simp only;omega))]
    exact ha j v hv
  · by_cases c2:j<xs.length+bs.length
    · rw [List.append_assoc,List.getElem?_append_right (by omega),List.getElem?_append_left (by omega)] at hv
      have hjj:=ZaQ hv
      have:=World.cell?_setCells_in b bs (off+xs.length) (w.setCells b (off+xs.length+bs.length) cs) (fun t ht=>by
        have:=i1 (xs.length+t) (by simp only [List.length_append];omega)
        rwa [show off+(xs.length+t)=off+xs.length+t by omega] at this) (j - xs.length) hjj
      rw [show off+xs.length+(j - xs.length)=off+j by omega] at this
      rw [this,← hv,List.getElem?_eq_getElem hjj]
    · rw [List.getElem?_append_right (by simp only [List.length_append];omega),List.length_append] at hv
      have hjj:=ZaQ hv
      rw [World.cell?_setCells_out b bs _ _ _ (fun _ _=>.inr (by simp only;omega))]
      have:=World.cell?_setCells_in b cs (off+xs.length+bs.length) w (fun t ht=>by
        have:=h1 (xs.length+bs.length+t) (by omega)
        rwa [show off+(xs.length+bs.length+t)=off+xs.length+bs.length+t by omega] at this) (j - (xs.length+bs.length)) hjj
      rw [show off+xs.length+bs.length+(j - (xs.length+bs.length))=off+j by omega] at this
      rw [this,← hv,List.getElem?_eq_getElem hjj]
theorem ZeN {Ow:Nat→Prop} {w0 w:World} (h:Fr Ow w0 w) {b:Nat} (hb:Ow b) (o:Nat) (vs:List Value):Fr Ow w0 (w.setCells b o vs):=by
  have hs:=ZbF w b vs o
  refine ⟨?_,?_,by rw [hs];exact h.size,fun c hc hn=>?_⟩
  · rw [← h.os];exact World.os_setCells w b o vs
  · rw [← h.output];exact World.output_setCells w b o vs
  · rw [World.heap_setCells_other w b o vs (Nat.lt_of_lt_of_le hc h.size) (fun e=>hn (e▸hb))]
    exact h.old c hc hn
theorem Zqa {α:Type} {s:List α} {i:Nat} {x:α} (hi:i≤s.length):(s.take i++x::s.drop i).length=s.length+1:=by
  simp only [List.length_append,List.length_take,List.length_cons,List.length_drop];omega
theorem ZlV {p q : Bool} {S : Nat → Prop} {w : World} {ι : Imap} {sz : Nat} {s : List (List AV)} {row : List AV} {us vs : List Value} {i : Nat} (h : Flat p S w ι sz s us) (h' : Flat q S w ι sz [row] vs) (hi : i ≤ s.length) :
    Flat (p && q) S w ι sz (s.take i++row::s.drop i) (us.take (i * sz)++vs++us.drop (i * sz)):=by
  have hfl:∀ (rs:List (List AV)) (i:Nat),(∀ r,r∈rs→r.length=sz)→i≤rs.length→(rs.take i).flatten=rs.flatten.take (i * sz)∧(rs.drop i).flatten=rs.flatten.drop (i * sz):=by
    intro rs
    induction rs with
    | nil=>intro i _ hi;simp
    | cons r rs ih =>
      intro i hl hi
      cases i with
      | zero=>simp
      | succ i =>
        have hr:=hl r (by simp)
        obtain ⟨h1,h2⟩:=ih i (fun r hr=>hl r (by simp [hr])) (by simpa using hi)
        have e:(i+1) * sz=r.length+i * sz:=by rw [Nat.add_mul,hr];omega
        refine ⟨?_,?_⟩
        · rw [List.take_succ_cons,List.flatten_cons,List.flatten_cons,h1,e,List.take_length_add_append]
        · rw [List.drop_succ_cons,List.flatten_cons,h2,e,List.drop_length_add_append]
  have hp:Flat p S w ι sz (s.take i) (us.take (i * sz)):=by
    refine ⟨fun r hr=>h.rl r (List.mem_of_mem_take hr),?_,fun v hv=>h.one v (List.mem_of_mem_take hv),?_⟩
    · rw [List.length_take,List.length_take,h.len,Nat.min_eq_left hi,Nat.min_eq_left (Nat.mul_le_mul_right _ hi)]
    · rw [(hfl s i h.rl hi).1];exact h.rep.take _
  have hd:Flat p S w ι sz (s.drop i) (us.drop (i * sz)):=by
    refine ⟨fun r hr=>h.rl r (List.mem_of_mem_drop hr),?_,fun v hv=>h.one v (List.mem_of_mem_drop hv),?_⟩
    · rw [List.length_drop,List.length_drop,h.len,Nat.sub_mul]
    · rw [(hfl s i h.rl hi).2];exact h.rep.drop _
  have:=(hp.append h').append hd
  have e:(p && q && p)=(p && q):=by cases p<;>cases q<;>rfl
  rw [e] at this
  rw [show s.take i++row::s.drop i=s.take i++[row]++s.drop i by simp]
  exact this
theorem Ziw {P : Program} {G : Gmap} {f : Nat} {e : TypeId} {sz : Nat} {s : List (List AV)} {p q : Bool} {row : List AV} {i : Nat} (hI : InsOk P f e sz) (hsz : 1 < sz) (hs : ∀ r, r ∈ s → r.length = sz)
    (hi:i≤s.length) (hL:s.length<LIM) (hrow:row.length=sz) :
    FC P G f [(0,.rows p s),(1,.rows q [row])] [.osw 0 sz,.int .i64 i,.osw 1 sz] (.osw 2 sz) [(2,.rows (p && q) (s.take i++row::s.drop i))]:=by
  refine ⟨hI.call,fun o x hx=>?_,fun S0 ι0 w0 vs hs0 hG hob hι hL'=>?_⟩
  · have:=Zgs hx
    simp only [List.mem_singleton,Prod.mk.injEq] at this
    rw [this.1];unfold W;omega
  obtain ⟨vs⟩:=vs
  obtain ⟨hlen,hrep⟩:=hL'
  match vs,hlen with
  | [v0,v1,v2],_ =>
    have r0:=hrep 0 _ v0 rfl rfl
    obtain rfl:=(hrep 1 _ v1 rfl rfl).int_inv
    have r2:=hrep 2 _ v2 rfl rfl
    have hq1:∃ l1 c1,ι0 1=some (some l1)∧l1.cnt=1∧v2 = .slice (some ⟨l1.blk,l1.base+0 * l1.esz,none⟩) 1 c1:=by
      rcases Zdf r2 with ⟨l1,a1,c1,q1,hv2,g2,g3,g4,gz,ga⟩ | ⟨q1,_⟩
      · rcases hob.ob 1 (.rows q [row]) rfl with ⟨h,_⟩ | ⟨l1',vals1,q1',hc1,_⟩
        · rw [q1] at h;cases h
        rw [q1] at q1';injection q1' with q1';injection q1' with q1';subst q1'
        simp only [List.length_singleton] at hc1
        refine ⟨l1,c1,q1,hc1.symm,?_⟩
        rw [hv2,← hc1,ga (by omega)]
        simp
      · rcases hob.ob 1 (.rows q [row]) rfl with ⟨_,h⟩ | ⟨l1',vals1,q1',_⟩
        · cases h
        · rw [q1] at q1';cases q1'
    obtain ⟨l1,c1,q1,g1,rfl⟩:=hq1
    rcases hob.ob 1 (.rows q [row]) rfl with ⟨h,_⟩ | ⟨l1',vals1,q1',hc1,hm1,hat1,hrep1⟩
    · rw [q1] at h;cases h
    rw [q1] at q1';injection q1' with q1';injection q1' with q1';subst q1'
    obtain ⟨vs1,hF1,hv1⟩:=ZgX hat1 hrep1 0 1 (by simp)
    simp only [List.drop_zero,List.take_succ_cons,List.take_zero] at hF1
    have ez1:l1.esz=sz:=(hF1.rl row (by simp)).symm.trans hrow
    rw [ez1] at hF1
    have hl1:vs1.length=sz:=by have:=hF1.len;simp at this;exact this
    have fz1:∀ j,w0.frozen? ⟨l1.blk,j,none⟩=false:=fun j=>(hm1 j).2 (.inr (by omega))
    have hRl:(s.take i++row::s.drop i).length=s.length+1:=Zqa hi
    have hfr0:Fr (OwOf w0 ι0 [(0,.rows p s),(1,.rows q [row])]) w0 w0:=⟨rfl,rfl,Nat.le_refl _,fun _ _ _=>rfl⟩
    have hkW:2<W:=by unfold W;omega
    have hfr1:Fr (OwOf w0 ι0 [(0,.rows p s),(1,.rows q [row])]) w0 w0.drew:=⟨rfl,rfl,Nat.le_refl _,fun _ _ _=>rfl⟩
    -- a new block
    have fin_new : ∀ (w' : World) (cells : List Value) (cap : Nat) (us : List Value), Flat p S0 w0 ι0 sz s us → s.length + 1 ≤ cap → cap * sz = cells.length →
        w'.os=w0.os→w'.output=w0.output→w0.heap.size<w'.heap.size→(∀ b,b<w0.heap.size→w'.heap[b]? = w0.heap[b]?) →
        (∀ j,j<cells.length→(w'.cell? ⟨w0.heap.size,j,none⟩).isSome=true)→(∀ j,w'.frozen? ⟨w0.heap.size,j,none⟩=false) →
        (∀ (j:Nat) v,(us.take (i * sz)++vs1++us.drop (i * sz))[j]? = some v→w'.cell? ⟨w0.heap.size,0+j,none⟩=some v) →
        ∃ v S' ι',Ending.returned (.slice (some ⟨w0.heap.size,0,none⟩) (s.length+1) cap) = .returned v∧Fr (OwOf w0 ι0 [(0,.rows p s),(1,.rows q [row])]) w0 w' ∧
          (∀ b,S' b→(S0 b∨OwOf w0 ι0 [(0,.rows p s),(1,.rows q [row])] b)∧b<w'.heap.size)∧(∀ b,S0 b→S' b)∧ι0.le ι'∧(∀ o,W≤o→ι' o=none) ∧
          Rep S' w' ι' (.osw 2 sz) v∧Zf7 (OwOf w0 ι0 [(0,.rows p s),(1,.rows q [row])]) S' w' ι' (lk [(2,.rows (p && q) (s.take i++row::s.drop i))]):=by
      intro w' cells cap us hF hcap hcs hos hout hsize hold hsome hfz hcell
      have hsame:ZbV S0 w0 w':=fun b hb=>hold b (hs0 b hb)
      have hFF:=ZlV (hF.mono (fun _ h=>h) hsame (Imap.le_refl _)) (hF1.mono (fun _ h=>h) hsame (Imap.le_refl _)) hi
      have:=ZgO (k:=2) (z:=sz) (cap:=cap) (L:=⟨w0.heap.size,0,sz,cells.length,s.length+1⟩) hs0 hι (by simp) hkW ⟨hos,hout,Nat.le_of_lt hsize,fun b hb _=>hold b hb⟩ (.inl (Nat.le_refl _)) (fun h=>absurd (hs0 _ h) (Nat.lt_irrefl _)) hsize
        hRl (fun j=>⟨fun hj=>Option.isSome_iff_exists.1 (hsome j hj),fun _=>hfz j⟩) hFF hcell (by rw [hRl];exact hcap) (by show 0+cap * sz≤cells.length;omega) (by rw [hRl];omega) (fun _=>rfl)
      rw [hRl] at this
      exact this
    -- an alloc
    have fin_alloc : ∀ (us : List Value) (cap : Nat) (rest : List Value), Flat p S0 w0 ι0 sz s us → i = s.length → s.length + 1 ≤ cap → cap * sz = (us ++ vs1 ++ rest).length →
        ∃ v S' ι',Ending.returned (.slice (some ⟨w0.heap.size,0,none⟩) (s.length+1) cap) = .returned v∧Fr (OwOf w0 ι0 [(0,.rows p s),(1,.rows q [row])]) w0 (w0.drew.alloc (.cells (us++vs1++rest).toArray e)) ∧
          (∀ b,S' b→(S0 b∨OwOf w0 ι0 [(0,.rows p s),(1,.rows q [row])] b)∧b<(w0.drew.alloc (.cells (us++vs1++rest).toArray e)).heap.size)∧(∀ b,S0 b→S' b)∧ι0.le ι'∧(∀ o,W≤o→ι' o=none) ∧
          Rep S' (w0.drew.alloc (.cells (us++vs1++rest).toArray e)) ι' (.osw 2 sz) v∧Zf7 (OwOf w0 ι0 [(0,.rows p s),(1,.rows q [row])]) S' (w0.drew.alloc (.cells (us++vs1++rest).toArray e)) ι' (lk [(2,.rows (p && q) (s.take i++row::s.drop i))]):=by
      intro us cap rest hF hie hcap hcs
      have hul:=hF.len
      have hc:∀ j,(w0.drew.alloc (.cells (us++vs1++rest).toArray e)).cell? ⟨w0.heap.size,j,none⟩=(us++vs1++rest)[j]? := fun j=>by
        have:=World.cell?_alloc_at (w:=w0.drew) (us++vs1++rest).toArray e w0.heap.size j rfl
        rw [this];simp
      refine fin_new _ (us++vs1++rest) cap us hF hcap hcs rfl rfl (by simp) (fun b hb=>?_) (fun j hj=>?_) (fun j=>?_) (fun j v hv=>?_)
      · exact ZcM w0.drew _ b hb
      · rw [hc,List.getElem?_eq_getElem hj];rfl
      · exact World.frozen?_alloc_at (w:=w0.drew) _ e w0.heap.size j rfl
      · have e1:us.take (i * sz)=us:=List.take_of_length_le (by rw [hul,hie];exact Nat.le_refl _)
        have e2:us.drop (i * sz)=[]:=List.drop_of_length_le (by rw [hul,hie];exact Nat.le_refl _)
        rw [e1,e2,List.append_nil] at hv
        rw [Nat.zero_add,hc,List.getElem?_append_left (ZaQ hv)]
        exact hv
    rcases Zdf r0 with ⟨l,a,cap,q0,rfl,b1,b2,b3,bz,ba⟩ | ⟨q0,a,rfl⟩
    · rcases hob.ob 0 (.rows p s) rfl with ⟨h,_⟩ | ⟨l',vals,q0',hcn,hm,hat,hrp⟩
      · rw [q0] at h;cases h
      rw [q0] at q0';injection q0' with q0';injection q0' with q0';subst q0'
      obtain ⟨us,hF,hv0⟩:=ZgX hat hrp 0 s.length (by omega)
      simp only [List.drop_zero,List.take_length,Nat.zero_mul,Nat.add_zero] at hF hv0
      by_cases hcap0:cap=0
      · have hs00:s=[]:=List.length_eq_zero_iff.1 (by omega)
        subst hs00
        simp only [List.length_nil] at hi hcn
        obtain rfl:i=0:=by omega
        have hus:us=[]:=List.length_eq_zero_iff.1 (by rw [hF.len];simp)
        subst hus
        rw [← hcn,hcap0]
        refine (hI.endg (some a) 0 0 l1.blk (l1.base+0 * l1.esz) c1 [] vs1 w0 (by omega) (by omega) (by unfold LIM;omega) (by simp) hl1 (fun h=>by cases h) (fun a _ j v h=>by simp at h) hv1 hF1.one).mono ?_
        rintro e' w' ⟨cap',rest,rfl,h1,h2,rfl⟩
        exact fin_alloc [] cap' rest Flat.nil rfl (by simpa using h1) h2
      · obtain rfl:=ba hcap0
        have hez:l.esz=sz:=by
          by_cases h0:l.cnt=0
          · exact bz h0 hcap0
          · obtain ⟨r,hr⟩:=List.exists_mem_of_ne_nil s (fun h=>h0 (by rw [← hcn,h];rfl))
            exact (hF.rl r hr).symm.trans (hs r hr)
        rw [hez] at hF
        have hul:=hF.len
        have hOw:OwOf w0 ι0 [(0,.rows p s),(1,.rows q [row])] l.blk:=.inr ⟨0,.rows p s,l,rfl,rfl,q0,.inl rfl⟩
        obtain ⟨_,hnS,hlt⟩:=hob.own 0 (.rows p s) rfl rfl l q0 _ (.inl rfl)
        have hne:l1.blk≠l.blk:=fun h=>by
          have:=hob.inj 0 1 (.rows p s) (.rows q [row]) rfl rfl rfl rfl l l1 q0 q1 _ (.inl rfl) (.inl h.symm)
          omega
        rw [← hcn]
        by_cases hroom:s.length+1≤cap
        · have hfit:(s.length+1) * sz≤cap * sz:=Nat.mul_le_mul_right _ hroom
          have hfit2:(s.length+1) * sz=s.length * sz+sz:=by rw [Nat.add_mul];omega
          rw [hez] at b2
          have hsome:∀ j,j<(s.length+1) * sz→(w0.cell? ⟨l.blk,l.base+j,none⟩).isSome=true:=fun j hj=>by
            obtain ⟨u,hu⟩:=(hm (l.base+j)).1 (by omega)
            simp only [Zbr] at hu;rw [hu];rfl
          have hfz:∀ j,w0.frozen? ⟨l.blk,j,none⟩=false:=fun j=>(hm j).2 (.inr (by omega))
          -- in place
          have fin_here : ∀ (w' : World), Fr (OwOf w0 ι0 [(0, .rows p s), (1, .rows q [row])]) w0 w' → w'.heap.size = w0.heap.size → Mine w' l →
              (∀ (j:Nat) v,(us.take (i * sz)++vs1++us.drop (i * sz))[j]? = some v→w'.cell? ⟨l.blk,l.base+j,none⟩=some v) →
              ∃ v S' ι',Ending.returned (.slice (some ⟨l.blk,l.base,none⟩) (s.length+1) cap) = .returned v∧Fr (OwOf w0 ι0 [(0,.rows p s),(1,.rows q [row])]) w0 w' ∧
                (∀ b,S' b→(S0 b∨OwOf w0 ι0 [(0,.rows p s),(1,.rows q [row])] b)∧b<w'.heap.size)∧(∀ b,S0 b→S' b)∧ι0.le ι'∧(∀ o,W≤o→ι' o=none) ∧
                Rep S' w' ι' (.osw 2 sz) v∧Zf7 (OwOf w0 ι0 [(0,.rows p s),(1,.rows q [row])]) S' w' ι' (lk [(2,.rows (p && q) (s.take i++row::s.drop i))]):=by
            intro w' hfr hsize hm' hcell
            have hsame:ZbV S0 w0 w':=fun b hb=>hfr.old b (hs0 b hb) (fun hO=>by
              rcases hO with h | ⟨o,x,l',t1,t2,t3,t4⟩
              · have:=hs0 b hb;omega
              · exact (hob.own o x t1 t2 l' t3 b t4).2.1 hb)
            have hFF:=ZlV (hF.mono (fun _ h=>h) hsame (Imap.le_refl _)) (hF1.mono (fun _ h=>h) hsame (Imap.le_refl _)) hi
            have:=ZgO (k:=2) (z:=sz) (cap:=cap) (L:=⟨l.blk,l.base,sz,l.size,s.length+1⟩) hs0 hι (by simp) hkW hfr hOw hnS (by simp only;omega)
              hRl (fun j=>⟨(hm' j).1,fun h=>(hm' j).2 (by simp only at h;rw [hez];exact h)⟩) hFF hcell (by rw [hRl];exact hroom) (by simp only;exact b2) (by rw [hRl];omega) (fun _=>rfl)
            rw [hRl] at this
            exact this
          by_cases hend:i=s.length
          · subst hend
            refine (hI.endr l.blk l.base s.length cap l1.blk (l1.base+0 * l1.esz) c1 vs1 w0 hroom hl1 (fun j hj=>?_) (fun j _=>hfz _) hv1 hF1.one).mono ?_
            · rw [Nat.add_assoc];exact hsome _ (by omega)
            · rintro e' w' ⟨rfl,rfl⟩
              refine fin_here _ (ZeN hfr0 hOw _ _) (ZbF _ _ _ _) (hm.setCells _ _) ?_
              have:=ZiD (w:=w0) (b:=l.blk) (off:=l.base) (xs:=us.take (s.length * sz)) (bs:=vs1) (cs:=us.drop (s.length * sz)) (o1:=l.base+s.length * sz+sz) (o2:=l.base+s.length * sz) (fun j hj=>hsome j (by
                  simp only [List.length_append,List.length_take,List.length_drop] at hj;omega)) (fun j v h=>hv0 j v (by
                  rw [List.getElem?_take] at h;split at h;exact h;cases h)) (by rw [List.length_take];omega) (by rw [List.length_take];omega)
              have e2:us.drop (s.length * sz)=[]:=List.drop_of_length_le (by omega)
              rw [e2] at this ⊢
              exact this
          · refine (hI.shift l.blk l.base s.length cap i l1.blk (l1.base+0 * l1.esz) c1 us vs1 w0 (by omega) hroom hL hne hul hl1 hv0 hsome (fun j _=>hfz _) hv1 hF.one hF1.one fz1).mono ?_
            rintro e' w' ⟨rfl,rfl⟩
            have hm2:Mine w0.drew l:=hm
            have hiz:i * sz≤s.length * sz:=Nat.mul_le_mul_right _ hi
            refine fin_here _ (ZeN (ZeN hfr1 hOw _ _) hOw _ _) ?_ ((hm2.setCells _ _).setCells _ _) ?_
            · rw [ZbF,ZbF];rfl
            · exact ZiD (w:=w0.drew) (fun j hj=>hsome j (by
                  simp only [List.length_append,List.length_take,List.length_drop] at hj;omega)) (fun j v h=>hv0 j v (by
                  rw [List.getElem?_take] at h;split at h;exact h;cases h)) (by rw [List.length_take];omega) (by rw [List.length_take,Nat.add_mul];omega)
        · by_cases hend:i=s.length
          · subst hend
            refine (hI.endg (some ⟨l.blk,l.base,none⟩) s.length cap l1.blk (l1.base+0 * l1.esz) c1 us vs1 w0 (by omega) (by omega) hL hul hl1 (fun h=>by cases h) (fun a ha j v h=>?_) hv1 hF1.one).mono ?_
            · injection ha with ha;subst ha
              rw [Zev];exact hv0 j v h
            · rintro e' w' ⟨cap',rest,rfl,h1,h2,rfl⟩
              exact fin_alloc us cap' rest hF rfl h1 h2
          · have hiz:i * sz≤s.length * sz:=Nat.mul_le_mul_right _ hi
            refine (hI.grow l.blk l.base s.length cap i l1.blk (l1.base+0 * l1.esz) c1 us vs1 w0 (by omega) (by omega) (by omega) hL hul hl1 hv0 hv1 hF.one hF1.one).mono ?_
            rintro e' w' ⟨cap',rest,rfl,h1,h2,h3,rfl⟩
            have hc:∀ j,((w0.alloc (.cells (us.take (i * sz)++rest).toArray e)).drew).cell? ⟨w0.heap.size,j,none⟩=(us.take (i * sz)++rest)[j]? := fun j=>by
              have:=World.cell?_alloc_at (w:=w0) (us.take (i * sz)++rest).toArray e w0.heap.size j rfl
              refine this.trans ?_
              simp
            have hz1:(s.length+1) * sz=s.length * sz+sz:=by rw [Nat.add_mul];omega
            have hz2:(i+1) * sz=i * sz+sz:=by rw [Nat.add_mul];omega
            have hz3:(i+1) * sz≤s.length * sz:=Nat.mul_le_mul_right _ (by omega)
            have hsm:∀ j,j<(us.take (i * sz)++rest).length→(((w0.alloc (.cells (us.take (i * sz)++rest).toArray e)).drew).cell? ⟨w0.heap.size,j,none⟩).isSome=true:=fun j hj=>by
              rw [hc,List.getElem?_eq_getElem hj];rfl
            have htk:(us.take (i * sz)).length=i * sz:=by rw [List.length_take];omega
            refine fin_new _ (us.take (i * sz)++rest) cap' us hF h1 h2 ?_ ?_ ?_ (fun b hb=>?_) (fun j hj=>?_) (fun j=>?_) (fun j v hv=>?_)
            · rw [World.os_setCells];show ((w0.alloc _).drew.setCells _ _ _).os=_;rw [World.os_setCells];rfl
            · rw [World.output_setCells];show ((w0.alloc _).drew.setCells _ _ _).output=_;rw [World.output_setCells];rfl
            · rw [ZbF];show _<((w0.alloc _).drew.setCells _ _ _).heap.size;rw [ZbF];simp
            · have hlt2:b<((w0.alloc (.cells (us.take (i * sz)++rest).toArray e)).drew.setCells w0.heap.size (i * sz) vs1).drew.heap.size:=by
                show b<((w0.alloc _).drew.setCells _ _ _).heap.size;rw [ZbF];simp;omega
              rw [World.heap_setCells_other _ _ _ _ hlt2 (by omega)]
              show ((w0.alloc _).drew.setCells _ _ _).heap[b]? = _
              rw [World.heap_setCells_other _ _ _ _ (by simp;omega) (by omega)]
              exact ZcM w0 _ b hb
            · have i1:∀ t,t<(us.take (i * sz)++rest).length→(((w0.alloc (.cells (us.take (i * sz)++rest).toArray e)).drew.setCells w0.heap.size (i * sz) vs1).cell? ⟨w0.heap.size,t,none⟩).isSome=true:=fun t ht =>
                isSome_setCells _ _ _ _ (fun u hu=>hsm _ (by omega)) _ (hsm t ht)
              refine isSome_setCells _ _ _ _ (fun u hu=>?_) _ (i1 j hj)
              have hdl:(us.drop (i * sz)).length=us.length - i * sz:=List.length_drop
              rw [hdl] at hu
              refine i1 ((i+1) * sz+u) ?_
              clear i1 hsm hc fin_new fin_alloc
              omega
            · rw [World.frozen?_setCells]
              show ((w0.alloc _).drew.setCells _ _ _).frozen? _=false
              rw [World.frozen?_setCells]
              exact World.frozen?_alloc_at (w:=w0) _ e w0.heap.size j rfl
            · have hj:=ZaQ hv
              simp only [List.length_append,List.length_drop,htk] at hj
              have hdl:(us.drop (i * sz)).length=s.length * sz - i * sz:=by rw [List.length_drop];omega
              rw [Nat.zero_add]
              by_cases c2:j<i * sz+sz
              · rw [World.cell?_setCells_out _ _ _ _ _ (fun _ _=>.inl (by simp only;omega))]
                show ((w0.alloc _).drew.setCells _ _ _).cell? _=_
                rw [List.getElem?_append_left (by rw [List.length_append,htk];omega)] at hv
                by_cases c1:j<i * sz
                · rw [World.cell?_setCells_out _ _ _ _ _ (fun _ _=>.inl (by simp only;omega)),hc,List.getElem?_append_left (by omega)]
                  rw [List.getElem?_append_left (by omega)] at hv
                  exact hv
                · rw [List.getElem?_append_right (by omega),htk] at hv
                  have hjj:=ZaQ hv
                  have:=World.cell?_setCells_in w0.heap.size vs1 (i * sz) ((w0.alloc (.cells (us.take (i * sz)++rest).toArray e)).drew) (fun t ht=>hsm _ (by omega)) (j - i * sz) hjj
                  rw [show i * sz+(j - i * sz)=j by omega] at this
                  rw [this,← hv,List.getElem?_eq_getElem hjj]
              · rw [List.getElem?_append_right (by rw [List.length_append,htk];omega),List.length_append,htk,hl1] at hv
                have hjj:=ZaQ hv
                have:=World.cell?_setCells_in w0.heap.size (us.drop (i * sz)) ((i+1) * sz) (((w0.alloc (.cells (us.take (i * sz)++rest).toArray e)).drew.setCells w0.heap.size (i * sz) vs1).drew) (fun t ht=>by
                  show (((w0.alloc _).drew.setCells _ _ _).cell? _).isSome=true
                  exact isSome_setCells _ _ _ _ (fun u hu=>hsm _ (by omega)) _ (hsm _ (by omega))) (j - (i * sz+sz)) hjj
                rw [show (i+1) * sz+(j - (i * sz+sz))=j by omega] at this
                rw [this,← hv,List.getElem?_eq_getElem hjj]
    · rcases hob.ob 0 (.rows p s) rfl with ⟨_,h⟩ | ⟨l',vals,q0',_⟩
      · subst h
        simp only [List.length_nil] at hi
        obtain rfl:i=0:=by omega
        refine (hI.endg a 0 0 l1.blk (l1.base+0 * l1.esz) c1 [] vs1 w0 (by omega) (by omega) (by unfold LIM;omega) (by simp) hl1 (fun _=>rfl) (fun a _ j v h=>by simp at h) hv1 hF1.one).mono ?_
        rintro e' w' ⟨cap',rest,rfl,h1,h2,rfl⟩
        exact fin_alloc [] cap' rest Flat.nil rfl (by simpa using h1) h2
      · rw [q0] at q0';cases q0'
structure DelOk (P:Program) (f:Nat) (sz:Nat):Prop where
  call:callB P f=true
  del:∀ (b off n c i:Nat) (cs:List Value) (w:World),i<n→n≤c→n≤LIM→cs.length=n * sz→(∀ (j:Nat) v,cs[j]? = some v→w.cell? ⟨b,off+j,none⟩=some v) →
    (∀ j,j<n * sz→w.frozen? ⟨b,off+j,none⟩=false)→(∀ v∈cs,v.oneCell'=true) →
    Calls P f #[.slice (some ⟨b,off,none⟩) n c,.int .i64 i,.int .i64 ((i:Int)+1)] w fun e w' =>
      ∃ zs:List Value,e = .returned (.slice (some ⟨b,off,none⟩) (n - 1) c)∧zs.length=sz∧w'=(w.drew.setCells b (off+i * sz) (cs.drop ((i+1) * sz))).setCells b (off+(n - 1) * sz) zs
theorem Zpf {p : Bool} {S : Nat → Prop} {w : World} {ι : Imap} {sz : Nat} {s : List (List AV)} {us : List Value} {i : Nat} (h : Flat p S w ι sz s us) (hi : i < s.length) :
    Flat p S w ι sz (s.take i++s.drop (i+1)) (us.take (i * sz)++us.drop ((i+1) * sz)):=by
  have hfl:∀ (rs:List (List AV)) (i:Nat),(∀ r,r∈rs→r.length=sz)→i≤rs.length→(rs.take i).flatten=rs.flatten.take (i * sz)∧(rs.drop i).flatten=rs.flatten.drop (i * sz):=by
    intro rs
    induction rs with
    | nil=>intro i _ hi;simp
    | cons r rs ih =>
      intro i hl hi
      cases i with
      | zero=>simp
      | succ i =>
        have hr:=hl r (by simp)
        obtain ⟨h1,h2⟩:=ih i (fun r hr=>hl r (by simp [hr])) (by simpa using hi)
        have e:(i+1) * sz=r.length+i * sz:=by rw [Nat.add_mul,hr];omega
        refine ⟨?_,?_⟩
        · rw [List.take_succ_cons,List.flatten_cons,List.flatten_cons,h1,e,List.take_length_add_append]
        · rw [List.drop_succ_cons,List.flatten_cons,h2,e,List.drop_length_add_append]
  have hp:Flat p S w ι sz (s.take i) (us.take (i * sz)):=by
    refine ⟨fun r hr=>h.rl r (List.mem_of_mem_take hr),?_,fun v hv=>h.one v (List.mem_of_mem_take hv),?_⟩
    · rw [List.length_take,List.length_take,h.len,Nat.min_eq_left (Nat.le_of_lt hi),Nat.min_eq_left (Nat.mul_le_mul_right _ (Nat.le_of_lt hi))]
    · rw [(hfl s i h.rl (Nat.le_of_lt hi)).1];exact h.rep.take _
  have hd:Flat p S w ι sz (s.drop (i+1)) (us.drop ((i+1) * sz)):=by
    refine ⟨fun r hr=>h.rl r (List.mem_of_mem_drop hr),?_,fun v hv=>h.one v (List.mem_of_mem_drop hv),?_⟩
    · rw [List.length_drop,List.length_drop,h.len,Nat.sub_mul]
    · rw [(hfl s (i+1) h.rl hi).2];exact h.rep.drop _
  have:=hp.append hd
  rw [Bool.and_self] at this
  exact this
theorem Zou {P : Program} {G : Gmap} {f : Nat} {sz : Nat} {s : List (List AV)} {p : Bool} {i : Nat} (hI : DelOk P f sz) (hsz : 1 < sz) (hs : ∀ r, r ∈ s → r.length = sz)
    (hi:i<s.length):FC P G f [(0,.rows p s)] [.osw 0 sz,.int .i64 i,.int .i64 ((i:Int)+1)] (.osw 1 sz) [(1,.rows p (s.take i++s.drop (i+1)))]:=by
  refine ⟨hI.call,fun o x hx=>?_,fun S0 ι0 w0 vs hs0 hG hob hι hL'=>?_⟩
  · have:=Zgs hx
    simp only [List.mem_singleton,Prod.mk.injEq] at this
    rw [this.1];unfold W;omega
  obtain ⟨vs⟩:=vs
  obtain ⟨hlen,hrep⟩:=hL'
  match vs,hlen with
  | [v0,v1,v2],_ =>
    have r0:=hrep 0 _ v0 rfl rfl
    obtain rfl:=(hrep 1 _ v1 rfl rfl).int_inv
    obtain rfl:=(hrep 2 _ v2 rfl rfl).int_inv
    rcases Zdf r0 with ⟨l,a,cap,q0,rfl,b1,b2,b3,bz,ba⟩ | ⟨q0,a,rfl⟩
    · rcases hob.ob 0 (.rows p s) rfl with ⟨h,_⟩ | ⟨l',vals,q0',hcn,hm,hat,hrp⟩
      · rw [q0] at h;cases h
      rw [q0] at q0';injection q0' with q0';injection q0' with q0';subst q0'
      obtain ⟨us,hF,hv0⟩:=ZgX hat hrp 0 s.length (by omega)
      simp only [List.drop_zero,List.take_length,Nat.zero_mul,Nat.add_zero] at hF hv0
      obtain rfl:=ba (by omega)
      have hez:l.esz=sz:=by
        obtain ⟨r,hr⟩:=List.exists_mem_of_ne_nil s (fun h=>by rw [h] at hi;simp at hi)
        exact (hF.rl r hr).symm.trans (hs r hr)
      rw [hez] at hF
      have hul:=hF.len
      have hOw:OwOf w0 ι0 [(0,.rows p s)] l.blk:=.inr ⟨0,.rows p s,l,rfl,rfl,q0,.inl rfl⟩
      obtain ⟨_,hnS,hlt⟩:=hob.own 0 (.rows p s) rfl rfl l q0 _ (.inl rfl)
      rw [← hcn]
      rw [← hcn] at b1 b3
      rw [hez] at b2
      have hfz:∀ j,w0.frozen? ⟨l.blk,j,none⟩=false:=fun j=>(hm j).2 (.inr (by omega))
      have hfit:s.length * sz≤cap * sz:=Nat.mul_le_mul_right _ b1
      have hi2:(i+1) * sz=i * sz+sz:=by rw [Nat.add_mul];omega
      have hi3:(i+1) * sz≤s.length * sz:=Nat.mul_le_mul_right _ hi
      have hi4:(s.length - 1) * sz=s.length * sz - sz:=by rw [Nat.sub_mul];omega
      have hsome:∀ j,j<s.length * sz→(w0.cell? ⟨l.blk,l.base+j,none⟩).isSome=true:=fun j hj=>by
        obtain ⟨u,hu⟩:=(hm (l.base+j)).1 (by omega)
        simp only [Zbr] at hu;rw [hu];rfl
      refine (hI.del l.blk l.base s.length cap i us w0 hi b1 b3 hul hv0 (fun j _=>hfz _) hF.one).mono ?_
      rintro e' w' ⟨zs,rfl,hzl,rfl⟩
      have hfr1:Fr (OwOf w0 ι0 [(0,.rows p s)]) w0 w0.drew:=⟨rfl,rfl,Nat.le_refl _,fun _ _ _=>rfl⟩
      have hfr:=ZeN (ZeN hfr1 hOw (l.base+i * sz) (us.drop ((i+1) * sz))) hOw (l.base+(s.length - 1) * sz) zs
      have hm2:Mine w0.drew l:=hm
      have hm':=(hm2.setCells (l.base+i * sz) (us.drop ((i+1) * sz))).setCells (l.base+(s.length - 1) * sz) zs
      have hsame:ZbV S0 w0 ((w0.drew.setCells l.blk (l.base+i * sz) (us.drop ((i+1) * sz))).setCells l.blk (l.base+(s.length - 1) * sz) zs):=fun b hb=>hfr.old b (hs0 b hb) (fun hO=>by
        rcases hO with h | ⟨o,x,l',t1,t2,t3,t4⟩
        · have:=hs0 b hb;omega
        · exact (hob.own o x t1 t2 l' t3 b t4).2.1 hb)
      have hFF:=Zpf (hF.mono (fun _ h=>h) hsame (Imap.le_refl _)) hi
      have hRl:(s.take i++s.drop (i+1)).length=s.length - 1:=by
        simp only [List.length_append,List.length_take,List.length_drop];omega
      have hw1:(w0.drew.setCells l.blk (l.base+i * sz) (us.drop ((i+1) * sz))).heap.size=w0.heap.size:=(ZbF _ _ _ _).trans rfl
      have:=ZgO (k:=1) (z:=sz) (cap:=cap) (L:=⟨l.blk,l.base,sz,l.size,s.length - 1⟩) hs0 hι (by simp) (by unfold W;omega) hfr hOw hnS (by
          show l.blk<_;rw [ZbF,hw1];exact hlt)
        hRl (fun j=>⟨(hm' j).1,fun h=>(hm' j).2 (by simp only at h;rw [hez];exact h)⟩) hFF (fun j v hv=>?_) (by rw [hRl];omega) (by show l.base+cap * sz≤l.size;exact b2) (by rw [hRl];omega) (fun _=>rfl)
      · rw [hRl] at this
        exact this
      · have hj:=ZaQ hv
        have htk:(us.take (i * sz)).length=i * sz:=by rw [List.length_take];omega
        have hdl:(us.drop ((i+1) * sz)).length=s.length * sz - (i+1) * sz:=by rw [List.length_drop];omega
        rw [List.length_append,htk,hdl] at hj
        show ((w0.drew.setCells _ _ _).setCells _ _ _).cell? ⟨l.blk,l.base+j,none⟩=_
        rw [World.cell?_setCells_out _ _ _ _ _ (fun _ _=>.inl (by simp only;omega))]
        by_cases c1:j<i * sz
        · rw [World.cell?_setCells_out _ _ _ _ _ (fun _ _=>.inl (by simp only;omega))]
          rw [List.getElem?_append_left (by omega),List.getElem?_take,if_pos c1] at hv
          exact hv0 j v hv
        · rw [List.getElem?_append_right (by omega),htk] at hv
          have hjj:=ZaQ hv
          have:=World.cell?_setCells_in l.blk (us.drop ((i+1) * sz)) (l.base+i * sz) w0.drew (fun t ht=>by
            rw [Nat.add_assoc];exact hsome _ (by omega)) (j - i * sz) hjj
          rw [show l.base+i * sz+(j - i * sz)=l.base+j by omega] at this
          rw [this,← hv,List.getElem?_eq_getElem hjj]
    · rcases hob.ob 0 (.rows p s) rfl with ⟨_,h⟩ | ⟨l',vals,q0',_⟩
      · subst h;simp at hi
      · rw [q0] at q0';cases q0'
structure ZpI (P:Program) (f:Nat) (e:TypeId) (sz:Nat):Prop where
  call:callB P f=true
  nil:∀ (base:Option Addr) (n:Nat),n≤LIM→∀ w:World,
    Calls P f #[.slice base 0 0,.int .i64 n] w fun e' w'=>(n=0∧e' = .returned (.slice base 0 0)∧w'=w)∨(0<n∧∃ (cap:Nat) (zs:List Value),e' = .returned (.slice (some ⟨w.heap.size,0,none⟩) 0 cap)∧zs.length=cap * sz∧n≤cap∧w'=w.drew.alloc (.cells zs.toArray e))
theorem ZqH {P:Program} {G:Gmap} {f:Nat} {e:TypeId} {sz n:Nat} (hI:ZpI P f e sz) (hn:n≤LIM):FC P G f [] [.esl,.int .i64 (n:Int)] (.osw 0 sz) [(0,.rows true [])]:=by
  refine ⟨hI.call,fun o x hx=>?_,fun S0 ι0 w0 vs hs0 hG hob hι hL'=>?_⟩
  · have:=Zgs hx
    simp only [List.mem_singleton,Prod.mk.injEq] at this
    rw [this.1];unfold W;omega
  obtain ⟨vs⟩:=vs
  obtain ⟨hlen,hrep⟩:=hL'
  match vs,hlen with
  | [v0,v1],_ =>
    have r0:=hrep 0 _ v0 rfl rfl
    obtain rfl:=(hrep 1 _ v1 rfl rfl).int_inv
    obtain ⟨a,rfl⟩:∃ a,v0 = .slice a 0 0:=by
      cases r0 with
      | imm _ _ h=>cases h with | esl a=>exact ⟨a,rfl⟩
    refine (hI.nil a n hn w0).mono ?_
    have hle:ι0.le (fun o=>if o=0 then some none else ι0 o):=fun o x e=>by
      rw [hι o (Nat.zero_le _)] at e;cases e
    rintro e' w' (⟨_,rfl,rfl⟩ | ⟨hp,cap,zs,rfl,hzs,hcap,rfl⟩)
    · refine ⟨_,S0,(fun o=>if o=0 then some none else ι0 o),rfl,⟨rfl,rfl,Nat.le_refl _,fun _ _ _=>rfl⟩,fun b hb=>⟨.inl hb,hs0 b hb⟩,fun _ h=>h,hle,fun o ho=>?_,.oswv 0 sz a (by simp),⟨?_,?_,?_⟩⟩
      · have:o≠0:=by unfold W at ho;omega
        simp only [this,if_false];exact hι o (Nat.zero_le _)
      · intro o x hx
        have:=Zgs hx
        simp only [List.mem_singleton,Prod.mk.injEq] at this
        obtain ⟨rfl,rfl⟩:=this
        exact .inl ⟨by simp,rfl⟩
      · intro o x hx _ l hl
        have:=Zgs hx
        simp only [List.mem_singleton,Prod.mk.injEq] at this
        obtain ⟨rfl,rfl⟩:=this
        simp at hl
      · intro o o' x x' hx hx' hl hl' l l' e
        have:=Zgs hx
        simp only [List.mem_singleton,Prod.mk.injEq] at this
        obtain ⟨rfl,rfl⟩:=this
        simp at e
    · have hc:∀ j,(w0.drew.alloc (.cells zs.toArray e)).cell? ⟨w0.heap.size,j,none⟩=zs[j]? := fun j=>by
        have:=World.cell?_alloc_at (w:=w0.drew) zs.toArray e w0.heap.size j rfl
        rw [this];simp
      have:=ZgO (k:=0) (z:=sz) (p:=true) (R:=[]) (us:=[]) (cap:=cap) (L:=⟨w0.heap.size,0,sz,zs.length,0⟩) (w':=w0.drew.alloc (.cells zs.toArray e)) hs0 hι (Nat.le_refl _) (by unfold W;omega)
        ⟨rfl,rfl,by simp,fun b hb _=>ZcM w0.drew _ b hb⟩ (.inl (Nat.le_refl _)) (fun h=>absurd (hs0 _ h) (Nat.lt_irrefl _)) (by simp) rfl
        (fun j=>⟨fun hj=>Option.isSome_iff_exists.1 (by simp only [Zbr];rw [hc,List.getElem?_eq_getElem hj];rfl),fun _=>World.frozen?_alloc_at (w:=w0.drew) _ e w0.heap.size j rfl⟩)
        ⟨(fun r hr=>by cases hr),(by rw [List.length_nil,List.length_nil,Nat.zero_mul]),(fun v hv=>by cases hv),⟨rfl,fun j x v hx=>by simp at hx⟩⟩ (fun j v hj=>by simp at hj) (Nat.zero_le _) (by show 0+cap * sz≤zs.length;omega) (Nat.zero_le _) (fun _=>rfl)
      exact this
end Go.Ab
namespace Go.Ab
theorem Zrd {P : Program} {G : Gmap} {f : Nat} {fn : Func} {c : Code} {args : List AV} {rv : AV} (fuel : Nat) (hf : P.funcs[f]? = some fn) (hb : fn.body = some c)
    (hn:callB P f=true) (hm:P.follows .mixedOrders=true) (hsz:args.length≤fn.ntmps)
    (h:xcode P G ⟨0,fn.ntmps,false⟩ 0 (finC P fn.results.toList fun r=>Wk r rv) fuel [.code c] (argsG args 0) [] W):FC P G f [] args rv []:=by
  refine ⟨hn,fun o x hx=>by simp [lk] at hx,fun S0 ι0 w0 vs h0 hG hob hι hL=>?_⟩
  have him:∀ j L,ι0 j=some L→j<([]:Os).length:=fun j L e=>by rw [hι j (Nat.zero_le _)] at e;cases e
  have hinv:=Zie (fn:=fn) hsz h0 hG hob hι (Nat.zero_le _) him hL
  refine Zhh hm hf hb ⟨rfl,rfl⟩ hinv h ?_
  intro N dfs qb g os hfin S ι un a w hi
  obtain ⟨rs,hrs,h2⟩:=opt_e hfin
  obtain ⟨rv',hrv,h3⟩:=opt_e h2
  rw [Zd6] at h3
  obtain ⟨v,hv1,hv2⟩:=Zg8 (P:=P) hi hrs
  have hcl:=Zel hi.ob 8 _ _ _ hv2 hrv
  have hR : ∃ v' S' ι', Ending.returned v = .returned v' ∧ Fr (OwOf w0 ι0 []) w0 w ∧ (∀ b, S' b → (S0 b ∨ OwOf w0 ι0 [] b) ∧ b < w.heap.size) ∧ (∀ b, S0 b → S' b) ∧ ι0.le ι' ∧
      (∀ o,W≤o→ι' o=none)∧Rep S' w ι' rv v'∧Zf7 (OwOf w0 ι0 []) S' w ι' (lk []):=by
    refine ⟨v,SV S ι (toFS g os).os (os.map (·.1)),ι0,rfl,hi.fr,fun b hb=>⟨?_,SV_lt hi _ b hb⟩,?_,Imap.le_refl _,fun o _=>hι o (Nat.zero_le _),.imm _ _ (h3.irep _ hcl),
      ⟨fun o x hx=>by simp [lk] at hx,fun o x hx=>by simp [lk] at hx,fun o o' x x' hx=>by simp [lk] at hx⟩⟩
    · rcases hb with hb | ⟨o,x,l,_,hx,hl,rfl⟩
      · exact hi.sn b hb
      · by_cases hlv:x.live=true
        · exact .inr (hi.own o x hx hlv l hl _ (.inl rfl)).1
        · have hob2:=hi.ob o x hx
          cases x with
          | froz rs =>
            rcases hob2 with ⟨q,_⟩ | ⟨l',vals,q,_,hS,_⟩
            · rw [q] at hl;cases hl
            · rw [q] at hl;injection hl with hl;injection hl with hl;subst hl
              exact hi.sn _ hS
          | rows p rs=>exact absurd rfl hlv
          | mapo p es=>exact absurd rfl hlv
          | lit rs=>exact absurd rfl hlv
    · exact fun b hb=>.inl (hi.s0 b hb)
  exact ⟨v,hv1,hR⟩
abbrev aI (n:Int):AV:=.int .i64 n
theorem oL {a b:Prop} (h:a):a∨b:=.inl h
theorem bC {b:Bool} {α:Type} {X Y:Option α} {r:α} {A B:Prop} (h:cond b X Y=some r) (h1:b=true→X=some r→A) (h2:b=false→Y=some r→B):brc b A B :=
  brn_i (fun hb=>h1 hb (Zl6 h hb)) (fun hb=>h2 hb (Zl7 h hb))
theorem oG {α:Type} {c:α→List AV} {L:List α} {i:Nat} {y:α} {K:List AV→Prop} (h:L[i]? = some y) (k:K (c y)):opt ((L.map c)[i]?) K:=opt_i (c y) (getE rfl h) k
theorem eI {m : Nat} {R : Prop} {gx : Tm} {osx : Os} {nx : Nat} {g' : Tm} {os' : Os} (σ : List (Nat × Nat)) (hR : R := by first | trivial | rfl)
    (h2:gx.map (fun e=>renAV (ap σ) e.2)=gx.map (fun e=>lookG g' e.1):=by exact rfl) (h3:osx.map (fun e=>some (renO (ap σ) e.2))=osx.map (fun e=>lk os' (ap σ e.1)):=by exact rfl)
    (h1:(gx.all (fun e=>idsB nx e.2) && osx.all (fun e=>decide (e.1<nx) && idsBO nx e.2) && decide ((osx.map fun e=>ap σ e.1).Nodup) && decide (m≤nx) && (List.range m).all (fun j=>ap σ j==j))=true:=by exact rfl) :
    R∧∃ σ,Cov m g' os' σ gx osx nx:=end_i hR σ h2 h3 h1
theorem gI {m : Nat} {rv : AV} {os' : Os} {v : AV} {os : Os} (σ : List (Nat × Nat)) (h2 : renAV (ap σ) rv = v := by exact rfl)
    (h3:os'.map (fun e=>some (renO (ap σ) e.2))=os'.map (fun e=>lk os (ap σ e.1)):=by exact rfl)
    (h1:(idsB W rv && os'.all (fun e=>decide (e.1<W) && idsBO W e.2) && decide ((os'.map fun e=>ap σ e.1).Nodup) && decide (m≤W) && (List.range m).all (fun j=>ap σ j==j))=true:=by exact rfl) :
    EndG m rv os' v os:=ZiQ σ h2 h3 h1
end Go.Ab
namespace Go.Ab
theorem rowE {a b:List (List AV)} {p:Bool} (h:a=b):some (AO.rows p a)=some (AO.rows p b):=by rw [h]
theorem rQ {α:Type} {a b:α} (h:a=b:=by first | rfl | (simp;done) | (rw [List.map_append];rfl) | exact map_set1 | exact map_set2 | exact map_set3 | (simp only [List.map_set];rfl) | (simp [outR];done) | (simp only [outR,Sum.elim_inr,id,List.map_append,List.map_map];rfl)):a=b:=h
theorem bS {b b' : Bool} {α : Type} {X Y : Option α} {r : α} {A B : Prop} (h : cond b' X Y = some r) (h1 : X = some r → A) (h2 : Y = some r → B)
    (e1:b=true→b'=true:=by intro hb;first | exact hb | (simp;done) | simpa using hb | simpa [chunk] using hb | (simp [chunk] at hb ⊢;omega))
    (e2:b=false→b'=false:=by intro hb;first | exact hb | (simp;done) | simpa using hb | simpa [chunk] using hb | (simp [chunk] at hb ⊢;omega)):brc b A B :=
  brn_i (fun hb=>h1 (Zl6 h (e1 hb))) (fun hb=>h2 (Zl7 h (e2 hb)))
theorem bT {b b' : Bool} {α : Type} {Y : Option α} {r : α} {A B : Prop} (h : cond b' none Y = some r) (h2 : Y = some r → B)
    (e1:b=true→b'=true:=by intro hb;first | exact hb | (simp;done) | simpa using hb | simpa [chunk] using hb | (simp [chunk] at hb ⊢;omega))
    (e2:b=false→b'=false:=by intro hb;first | exact hb | (simp;done) | simpa using hb | simpa [chunk] using hb | (simp [chunk] at hb ⊢;omega)):brc b A B :=
  brn_i (fun hb=>by cases Zl6 h (e1 hb)) (fun hb=>h2 (Zl7 h (e2 hb)))
theorem bF {b b' : Bool} {α : Type} {X : Option α} {r : α} {A B : Prop} (h : cond b' X none = some r) (h1 : X = some r → A)
    (e1:b=true→b'=true:=by intro hb;first | exact hb | (simp;done) | simpa using hb | simpa [chunk] using hb | (simp [chunk] at hb ⊢;omega))
    (e2:b=false→b'=false:=by intro hb;first | exact hb | (simp;done) | simpa using hb | simpa [chunk] using hb | (simp [chunk] at hb ⊢;omega)):brc b A B :=
  brn_i (fun hb=>h1 (Zl6 h (e1 hb))) (fun hb=>by cases Zl7 h (e2 hb))
theorem gS {p q : Prop} {_ : Decidable q} {α : Type} {X : Option α} {r : α} {b : Prop} (h : cond (decide q) X none = some r) (k : X = some r → b)
    (e:q→p:=by intro hg;first | exact hg | (simp;done) | simpa using hg | simpa [chunk] using hg | (simp [chunk] at hg ⊢;omega)):p∧b :=
  ⟨e (grd_e h).1,k (grd_e h).2⟩
theorem gX {q:Prop} {_:Decidable q} {α:Type} {X:Option α} {r:α} {b:Prop} (h:cond (decide q) X none=some r) (k:X=some r→b):q∧b:=⟨(grd_e h).1,k (grd_e h).2⟩
theorem aX {a b:Prop} (k:b) (h:a:=by first | exact Zds.map (fun _=>rfl) | exact Zds.cons rfl Zds.nil | exact Zds.nil | exact Nat.le_of_ble_eq_true rfl | kernel_rfl | decide | trivial | exact ⟨by kernel_rfl,_,rfl⟩):a∧b:=⟨h,k⟩
theorem oB {α β : Type} {c : α → List AV} {L : List α} {i : Nat} {g : α → Option β} {r : β} {X : List (List AV)} {K : List AV → Prop} (h : Option.bind L[i]? g = some r) (k : ∀ y, g y = some r → K (c y))
    (e:X=L.map c:=by first | exact rfl | (simp;done) | (rw [List.map_append];rfl) | exact map_set1 | exact map_set2 | exact map_set3 | (simp only [List.map_set];rfl)):opt (X[i]?) K:=by
  obtain ⟨y,hy,h⟩:=ZbE h
  exact opt_i (c y) (getE e hy) (k y h)
theorem cL {α β : Type} {X : Option α} {g : α → Option β} {r : β} {P : Program} {G : Gmap} {f : Nat} {args : List AV} {rv : α → AV} {Kf : AV → Prop} {Z : AV → Os → Prop}
    (h:Option.bind X g=some r) (c:∀ {y},X=some y→FC P G f [] args (rv y) []) (k:∀ y,g y=some r→Kf (rv y)) (hf:∀ y,flat (rv y)=true:=by exact fun _=>rfl) :
    ∃ v os,FC P G f [] args v os∧((flat v=true∧os=[]∧Kf v)∨Z v os):=by
  obtain ⟨y,hy,h⟩:=ZbE h
  exact ⟨_,_,c hy,.inl ⟨hf y,rfl,k y h⟩⟩
theorem cR {α β : Type} {X : Option α} {g : α → Option β} {r : β} {P : Program} {G : Gmap} {f : Nat} {args : List AV} {rv : α → AV} {os' : α → Os} {Y : AV → Os → Prop} {A : List Nat → Option (List AV)} {B : AV → Os → List Nat → Prop}
    (h:Option.bind X g=some r) (c:∀ {y},X=some y→FC P G f [] args (rv y) (os' y)) (k:∀ y,g y=some r→B (rv y) (os' y) []) (hA:A []=some args:=by exact rfl) :
    ∃ v os,FC P G f [] args v os∧(Y v os∨∃ V,A V=some args∧B v os V):=by
  obtain ⟨y,hy,h⟩:=ZbE h
  exact ⟨_,_,c hy,.inr ⟨[],hA,k y h⟩⟩
theorem cG {α β : Type} {X : Option α} {g : α → Option β} {r : β} {P : Program} {G : Gmap} {f : Nat} {avs : List AV} {ol : Nat → Option AO} {id : Nat} {K : AV → List (Nat × Option AO) → List Nat → Prop} {A : Prop}
    {oin:List (Nat×AO)} {argsC:List AV} {rv:α→AV} {os':α→List (Nat×AO)}
    (V:List Nat) (h:Option.bind X g=some r) (c:∀ {y},X=some y→FC P G f oin argsC (rv y) (os' y)) (k:∀ y,g y=some r→fAV (renAV (bk V id) (rv y)) fun v=>K v (backU V id (os' y)) V)
    (h1:(decide V.Nodup && idsBL V.length argsC && oin.all fun e=>idsBO V.length e.2)=true:=by exact rfl) (h2:oin.map (·.1)=List.range V.length:=by exact rfl)
    (h3:oin.map (fun e=>some (renO (bk V id) e.2))=V.map ol:=by first | exact rfl | (repeat' first | exact rfl | refine cons2 ?_ ?_ | refine rowE ?_ | (simp;done) | (rw [List.map_append];rfl) | exact map_set1 | exact map_set2 | exact map_set3 | (simp only [List.map_set];rfl) | (simp [outR];done) | (simp only [outR,Sum.elim_inr,id,List.map_append,List.map_map];rfl))) (h4:renL (bk V id) argsC=avs:=by exact rfl):A∨CallG P G f avs ol id K:=by
  obtain ⟨y,hy,h⟩:=ZbE h
  exact .inr (Zjw V (c hy) h1 h2 h3 h4 (k y h))
theorem cg {P : Program} {G : Gmap} {f : Nat} {avs : List AV} {ol : Nat → Option AO} {id : Nat} {K : AV → List (Nat × Option AO) → List Nat → Prop} {A : Prop}
    {oin:List (Nat×AO)} {argsC:List AV} {rv:AV} {os':List (Nat×AO)}
    (V:List Nat) (c:FC P G f oin argsC rv os') (k:fAV (renAV (bk V id) rv) fun v=>K v (backU V id os') V)
    (h1:(decide V.Nodup && idsBL V.length argsC && oin.all fun e=>idsBO V.length e.2)=true:=by exact rfl) (h2:oin.map (·.1)=List.range V.length:=by exact rfl)
    (h3:oin.map (fun e=>some (renO (bk V id) e.2))=V.map ol:=by first | exact rfl | (repeat' first | exact rfl | refine cons2 ?_ ?_ | refine rowE ?_ | (simp;done) | (rw [List.map_append];rfl) | exact map_set1 | exact map_set2 | exact map_set3 | (simp only [List.map_set];rfl) | (simp [outR];done) | (simp only [outR,Sum.elim_inr,id,List.map_append,List.map_map];rfl))) (h4:renL (bk V id) argsC=avs:=by exact rfl):A∨CallG P G f avs ol id K :=
  .inr (Zjw V c h1 h2 h3 h4 k)
structure JB (m:Nat) (body:(Tm→Os→Nat→Prop)→Prop) (K:Tm→Os→Nat→Prop) (R A B:Prop):Prop where
  h:∃ gx osx nx,(A→body (fun g' os' _=>R∧∃ σ,Cov m g' os' σ gx osx nx))∧(B→K gx osx nx)
theorem jM {m:Nat} {body:(Tm→Os→Nat→Prop)→Prop} {K:Tm→Os→Nat→Prop} {R A B:Prop} (gx:Tm) (osx:Os) (nx:Nat) (b1:A→body (fun g' os' _=>R∧∃ σ,Cov m g' os' σ gx osx nx)) (b2:B→K gx osx nx):JB m body K R A B:=⟨gx,osx,nx,b1,b2⟩
theorem jN {m : Nat} {body : (Tm → Os → Nat → Prop) → Prop} {K : Tm → Os → Nat → Prop} {Z : Prop} {α β : Type} {X : Option α} {g : α → Option β} {r : β} (h : Option.bind X g = some r)
    (k:∀ y,JB m body K True (X=some y) (g y=some r)):Z∨Joins m body K:=by
  obtain ⟨y,hy,h⟩:=ZbE h
  obtain ⟨gx,osx,nx,b1,b2⟩:=(k y).h
  exact .inr (ZnI True gx osx nx (b1 hy) fun _=>b2 h)
theorem jS {m : Nat} {body : (Tm → Os → Nat → Prop) → Prop} {K : Tm → Os → Nat → Prop} {Z : Prop} {R V β : Type} [Inhabited V] {X : Option (R ⊕ V)} {f : R → Option β} {g : V → Option β} {r : β} (h : Option.bind X (fun o => Sum.elim f g o) = some r)
    (k:∀ o v,JB m body K (o=Sum.inr v) (X=some o∧Sum.elim f g o=some r∧outR o=v) (g v=some r)):Z∨Joins m body K:=by
  obtain ⟨o,ho,h⟩:=ZbE h
  obtain ⟨gx,osx,nx,b1,b2⟩:=(k o (outR o)).h
  exact .inr (ZnI (o=Sum.inr (outR o)) gx osx nx (b1 ⟨ho,h,rfl⟩) fun hR=>b2 (Zq2 hR h))
theorem jT {m : Nat} {body : (Tm → Os → Nat → Prop) → Prop} {K : Tm → Os → Nat → Prop} {R A1 A2 A3 B : Prop} (gx : Tm) (osx : Os) (nx : Nat) (b1 : A1 → A2 → A3 → body (fun g' os' _ => R ∧ ∃ σ, Cov m g' os' σ gx osx nx)) (b2 : B → K gx osx nx) :
    JB m body K R (A1∧A2∧A3) B:=⟨gx,osx,nx,fun h=>b1 h.1 h.2.1 h.2.2,b2⟩
theorem lI {m : Nat} {g : Tm} {os : Os} {body : (Tm → Os → Nat → Prop) → Tm → Os → Nat → Prop} {β γ : Type} (f : Nat → β → Option γ) (gx : β → Tm) (osx : β → Os) (nx : Nat) {n : Nat} (x0 : β) (σ0 : List (Nat × Nat)) {o : γ} (hI : f n x0 = some o)
    (hr:∀ n x,f (n+1) x=some o→body (fun g' os' _=>∃ x' σ,(fun q:Nat×β=>f q.1 q.2=some o) x'∧(fun q:Nat×β=>q.1) x'<(fun q:Nat×β=>q.1) (n+1,x)∧Cov m g' os' σ ((fun q:Nat×β=>gx q.2) x') ((fun q:Nat×β=>osx q.2) x') nx) (gx x) (osx x) nx)
    (h2:(gx x0).map (fun e=>renAV (ap σ0) e.2)=(gx x0).map (fun e=>lookG g e.1):=by repeat' first | exact rfl | refine cons2 ?_ ?_ | refine congrArg AV.sl ?_ | (simp;done) | (rw [List.map_append];rfl) | exact map_set1 | exact map_set2 | exact map_set3 | (simp only [List.map_set];rfl) | (simp [outR];done) | (simp only [outR,Sum.elim_inr,id,List.map_append,List.map_map];rfl))
    (h3:(osx x0).map (fun e=>some (renO (ap σ0) e.2))=(osx x0).map (fun e=>lk os (ap σ0 e.1)):=by first | exact rfl | (repeat' first | exact rfl | refine cons2 ?_ ?_ | refine rowE ?_ | (simp;done) | (rw [List.map_append];rfl) | exact map_set1 | exact map_set2 | exact map_set3 | (simp only [List.map_set];rfl) | (simp [outR];done) | (simp only [outR,Sum.elim_inr,id,List.map_append,List.map_map];rfl)))
    (h1:((gx x0).all (fun e=>idsB nx e.2) && (osx x0).all (fun e=>decide (e.1<nx) && idsBO nx e.2) && decide (((osx x0).map fun e=>ap σ0 e.1).Nodup) && decide (m≤nx) && (List.range m).all (fun j=>ap σ0 j==j))=true:=by exact rfl)
    (hz:∀ x,f 0 x=none:=by exact fun _=>rfl):Loops m g os body :=
  Zp2 (fun q:Nat×β=>gx q.2) (fun q=>osx q.2) nx (fun q=>f q.1 q.2=some o) (fun q=>q.1) (n,x0) σ0 hI h2 h3 h1 (by
    rintro ⟨n,x⟩ h
    cases n with
    | zero=>rw [show f 0 x=none from hz x] at h;cases h
    | succ n=>exact hr n x h)
theorem kV {a b:AV} (h:Wk a b:=by repeat' first | exact Wk.eq rfl | exact Wk.esl | refine Wk.t ?_ | refine Wk.a ?_ | exact WkL.nil | refine WkL.cons ?_ ?_ | exact Wk.eq (by first | (simp;done) | (rw [List.map_append];rfl) | exact map_set1 | exact map_set2 | exact map_set3 | (simp only [List.map_set];rfl) | (simp [outR];done) | (simp only [outR,Sum.elim_inr,id,List.map_append,List.map_map];rfl))):Wk a b:=h
theorem kL {a b:List AV} (h:WkL a b:=by repeat' first | exact Wk.eq rfl | exact Wk.esl | refine Wk.t ?_ | refine Wk.a ?_ | exact WkL.nil | refine WkL.cons ?_ ?_ | exact Wk.eq (by first | (simp;done) | (rw [List.map_append];rfl) | exact map_set1 | exact map_set2 | exact map_set3 | (simp only [List.map_set];rfl) | (simp [outR];done) | (simp only [outR,Sum.elim_inr,id,List.map_append,List.map_map];rfl))):WkL a b:=h
theorem kO {a b:List (Option AO)} (h:WkOs a b:=by repeat' first | exact WkOs.nil | refine WkOs.cons ?_ ?_ | exact WkO.eq (Option.some.inj rfl) | (refine WkO.eq (Option.some.inj (rowE ?_));first | (simp;done) | (rw [List.map_append];rfl) | (simp [outR];done) | (simp only [outR,Sum.elim_inr,id,List.map_append,List.map_map];rfl)) | refine WkO.r ?_ | exact WkR.nil | refine WkR.cons ?_ ?_ | refine kL | (refine WkR.of_eq ?_;first | (simp;done) | rfl | (rw [List.map_append];rfl) | exact map_set1 | exact map_set2 | exact map_set3 | (simp only [List.map_set];rfl) | (simp [outR];done) | (simp only [outR,Sum.elim_inr,id,List.map_append,List.map_map];rfl))):WkOs a b:=h
theorem lW {m : Nat} {g : Tm} {os : Os} {body : (Tm → Os → Nat → Prop) → Tm → Os → Nat → Prop} {β γ : Type} (f : Nat → β → Option γ) (gx : β → Tm) (osx : β → Os) (nx : Nat) {n : Nat} (x0 : β) (σ0 : List (Nat × Nat)) {o : γ} (hI : f n x0 = some o)
    (hr:∀ n x,f (n+1) x=some o→body (fun g' os' _=>∃ x' σ,(fun q:Nat×β=>f q.1 q.2=some o) x'∧(fun q:Nat×β=>q.1) x'<(fun q:Nat×β=>q.1) (n+1,x)∧Cov m g' os' σ ((fun q:Nat×β=>gx q.2) x') ((fun q:Nat×β=>osx q.2) x') nx) (gx x) (osx x) nx)
    (h2:WkL ((gx x0).map fun e=>lookG g e.1) ((gx x0).map fun e=>renAV (ap σ0) e.2):=by exact kL) (h3:WkOs ((osx x0).map fun e=>lk os (ap σ0 e.1)) ((osx x0).map fun e=>some (renO (ap σ0) e.2)):=by exact kO)
    (h1:((gx x0).all (fun e=>idsB nx e.2) && (osx x0).all (fun e=>decide (e.1<nx) && idsBO nx e.2) && decide (((osx x0).map fun e=>ap σ0 e.1).Nodup) && decide (m≤nx) && (List.range m).all (fun j=>ap σ0 j==j))=true:=by exact rfl)
    (hz:∀ x,f 0 x=none:=by exact fun _=>rfl):Loops m g os body :=
  Zp1 (fun q:Nat×β=>gx q.2) (fun q=>osx q.2) nx (fun q=>f q.1 q.2=some o) (fun q=>q.1) (n,x0) σ0 hI h2 h3 h1 (by
    rintro ⟨n,x⟩ h
    cases n with
    | zero=>rw [show f 0 x=none from hz x] at h;cases h
    | succ n=>exact hr n x h)
theorem eE {m : Nat} {R : Prop} {gx : Tm} {osx : Os} {nx : Nat} {g' : Tm} {os' : Os} (σ : List (Nat × Nat)) (hR : R := by first | trivial | rfl)
    (h2:gx.map (fun e=>renAV (ap σ) e.2)=gx.map (fun e=>lookG g' e.1):=by exact rfl)
    (h3:osx.map (fun e=>some (renO (ap σ) e.2))=osx.map (fun e=>lk os' (ap σ e.1)):=by repeat' first | exact rfl | refine cons2 ?_ ?_ | refine rowE ?_ | (simp;done) | (rw [List.map_append];rfl) | exact map_set1 | exact map_set2 | exact map_set3 | (simp only [List.map_set];rfl) | (simp [outR];done) | (simp only [outR,Sum.elim_inr,id,List.map_append,List.map_map];rfl))
    (h1:(gx.all (fun e=>idsB nx e.2) && osx.all (fun e=>decide (e.1<nx) && idsBO nx e.2) && decide ((osx.map fun e=>ap σ e.1).Nodup) && decide (m≤nx) && (List.range m).all (fun j=>ap σ j==j))=true:=by exact rfl) :
    R∧∃ σ,Cov m g' os' σ gx osx nx:=end_i hR σ h2 h3 h1
theorem gE {m : Nat} {rv : AV} {os' : Os} {v : AV} {os : Os} (σ : List (Nat × Nat)) (h2 : renAV (ap σ) rv = v := by exact rfl)
    (h3:os'.map (fun e=>some (renO (ap σ) e.2))=os'.map (fun e=>lk os (ap σ e.1)):=by repeat' first | exact rfl | refine cons2 ?_ ?_ | refine rowE ?_ | (simp;done) | (rw [List.map_append];rfl) | exact map_set1 | exact map_set2 | exact map_set3 | (simp only [List.map_set];rfl) | (simp [outR];done) | (simp only [outR,Sum.elim_inr,id,List.map_append,List.map_map];rfl))
    (h1:(idsB W rv && os'.all (fun e=>decide (e.1<W) && idsBO W e.2) && decide ((os'.map fun e=>ap σ e.1).Nodup) && decide (m≤W) && (List.range m).all (fun j=>ap σ j==j))=true:=by exact rfl) :
    EndG m rv os' v os:=ZiQ σ h2 h3 h1
theorem rE {m : Nat} {α : Type} {gx : α → Tm} {osx : α → Os} {nx : Nat} {I : α → Prop} {μ : α → Nat} {x : α} {g' : Tm} {os' : Os} (x' : α) (σ : List (Nat × Nat)) (hI : I x') (hμ : μ x' < μ x := by exact Nat.lt_succ_self _)
    (h2:(gx x').map (fun e=>renAV (ap σ) e.2)=(gx x').map (fun e=>lookG g' e.1):=by exact rfl)
    (h3:(osx x').map (fun e=>some (renO (ap σ) e.2))=(osx x').map (fun e=>lk os' (ap σ e.1)):=by repeat' first | exact rfl | refine cons2 ?_ ?_ | refine rowE ?_ | (simp;done) | (rw [List.map_append];rfl) | exact map_set1 | exact map_set2 | exact map_set3 | (simp only [List.map_set];rfl) | (simp [outR];done) | (simp only [outR,Sum.elim_inr,id,List.map_append,List.map_map];rfl))
    (h1:((gx x').all (fun e=>idsB nx e.2) && (osx x').all (fun e=>decide (e.1<nx) && idsBO nx e.2) && decide (((osx x').map fun e=>ap σ e.1).Nodup) && decide (m≤nx) && (List.range m).all (fun j=>ap σ j==j))=true:=by exact rfl) :
    ∃ x' σ,I x'∧μ x'<μ x∧Cov m g' os' σ (gx x') (osx x') nx:=ZpS x' σ hI hμ h2 h3 h1
theorem eW {m : Nat} {R : Prop} {gx : Tm} {osx : Os} {nx : Nat} {g' : Tm} {os' : Os} (σ : List (Nat × Nat)) (hR : R := by first | trivial | rfl)
    (h2:WkL (gx.map fun e=>lookG g' e.1) (gx.map fun e=>renAV (ap σ) e.2):=by exact kL) (h3:WkOs (osx.map fun e=>lk os' (ap σ e.1)) (osx.map fun e=>some (renO (ap σ) e.2)):=by exact kO)
    (h1:(gx.all (fun e=>idsB nx e.2) && osx.all (fun e=>decide (e.1<nx) && idsBO nx e.2) && decide ((osx.map fun e=>ap σ e.1).Nodup) && decide (m≤nx) && (List.range m).all (fun j=>ap σ j==j))=true:=by exact rfl) :
    R∧∃ σ,Cov m g' os' σ gx osx nx:=end_w hR σ h2 h3 h1
theorem gW {m : Nat} {rv : AV} {os' : Os} {v : AV} {os : Os} (σ : List (Nat × Nat)) (h2 : Wk v (renAV (ap σ) rv) := by exact kV)
    (h3:WkOs (os'.map fun e=>lk os (ap σ e.1)) (os'.map fun e=>some (renO (ap σ) e.2)):=by exact kO)
    (h1:(idsB W rv && os'.all (fun e=>decide (e.1<W) && idsBO W e.2) && decide ((os'.map fun e=>ap σ e.1).Nodup) && decide (m≤W) && (List.range m).all (fun j=>ap σ j==j))=true:=by exact rfl) :
    EndG m rv os' v os:=ZpE σ h2 h3 h1
theorem aE {P : Program} {G : Gmap} {f : Nat} {args args' : List AV} {rv : AV} {os : Os} (h : FC P G f [] args rv os)
    (e:args=args':=by repeat' first | exact rfl | refine cons2 ?_ ?_ | refine congrArg AV.agg ?_ | refine congrArg AV.sl ?_ | (simp;done) | (rw [List.map_append];rfl) | exact map_set1 | exact map_set2 | exact map_set3 | (simp only [List.map_set];rfl) | (simp [outR];done) | (simp only [outR,Sum.elim_inr,id,List.map_append,List.map_map];rfl)):FC P G f [] args' rv os:=e▸h
theorem aW {P:Program} {G:Gmap} {f:Nat} {oin:List (Nat×AO)} {args args':List AV} {rv:AV} {os':List (Nat×AO)} (h:FC P G f oin args' rv os') (hw:WkL args args':=by exact kL):FC P G f oin args rv os':=ZqJ hw h
theorem fA {P : Program} {G : Gmap} {f : Nat} {fn : Func} {c : Code} {args : List AV} {rv : AV} (hf : P.funcs[f]? = some fn)
    (h:xcode P G ⟨0,fn.ntmps,false⟩ 0 (finC P fn.results.toList fun r=>r=rv) 2000 [.code c] (argsG args 0) [] W) (hb:fn.body=some c:=by exact rfl)
    (hn:callB P f=true:=by kernel_rfl) (hm:P.follows .mixedOrders=true:=by exact mixed) (hsz:args.length≤fn.ntmps:=by exact Nat.le_of_ble_eq_true rfl):FC P G f [] args rv []:=FC_of 2000 hf hb hn hm hsz h
theorem fK {P : Program} {G : Gmap} {f : Nat} {fn : Func} {c : Code} {args : List AV} {rv : AV} (hf : P.funcs[f]? = some fn)
    (h:xcode P G ⟨0,fn.ntmps,false⟩ 0 (finC P fn.results.toList fun r=>Wk r rv) 2000 [.code c] (argsG args 0) [] W) (hb:fn.body=some c:=by exact rfl)
    (hn:callB P f=true:=by kernel_rfl) (hm:P.follows .mixedOrders=true:=by exact mixed) (hsz:args.length≤fn.ntmps:=by exact Nat.le_of_ble_eq_true rfl):FC P G f [] args rv []:=Zrd 2000 hf hb hn hm hsz h
theorem fG {P : Program} {G : Gmap} {f : Nat} {fn : Func} {c : Code} {oin : Os} {args : List AV} {rv : AV} {os' : Os} (hf : P.funcs[f]? = some fn)
    (h:xcode P G ⟨0,fn.ntmps,false⟩ oin.length (finG P fn.results.toList oin.length (EndG oin.length rv os')) 2000 [.code c] (argsG args 0) oin W) (hb:fn.body=some c:=by exact rfl)
    (hn:callB P f=true:=by kernel_rfl) (hm:P.follows .mixedOrders=true:=by exact mixed) (hsz:args.length≤fn.ntmps:=by exact Nat.le_of_ble_eq_true rfl)
    (hin:oin.length≤W:=by exact Nat.le_of_ble_eq_true rfl) (hos:(os'.all fun e=>decide (e.1<W))=true:=by exact rfl):FC P G f oin args rv os':=ZkF 2000 hf hb hn hm hsz hin hos h
def pp (n:Nat):AV:=.ptr n 0 0
def rF (r:List AV):AO:=.rows false [r]
def rT {α:Type} (c:α→List AV) (l:List α):AO:=.rows true (List.map c l)
def sM {α:Type} (c:α→List AV) (l:List α):AV:=.sl (List.map c l)
def tX (_:List (Nat×Nat)) (P:Prop):Prop:=P
theorem tI {σ:List (Nat×Nat)} {P:Prop} (h:let _s:=σ;P):tX σ P:=h
theorem eQ {m : Nat} {R : Prop} {gx : Tm} {osx : Os} {nx : Nat} {g' : Tm} {os' : Os} (σ : List (Nat × Nat)) (h : R ∧
    gx.map (fun e=>renAV (ap σ) e.2)=gx.map (fun e=>lookG g' e.1)∧osx.map (fun e=>some (renO (ap σ) e.2))=osx.map (fun e=>lk os' (ap σ e.1)) ∧
    (gx.all (fun e=>idsB nx e.2) && osx.all (fun e=>decide (e.1<nx) && idsBO nx e.2) && decide ((osx.map fun e=>ap σ e.1).Nodup) && decide (m≤nx) && (List.range m).all (fun j=>ap σ j==j))=true) :
    R∧∃ σ,Cov m g' os' σ gx osx nx:=end_i h.1 σ h.2.1 h.2.2.1 h.2.2.2
theorem gQ {m : Nat} {rv : AV} {os' : Os} {v : AV} {os : Os} (σ : List (Nat × Nat)) (h : renAV (ap σ) rv = v ∧ os'.map (fun e => some (renO (ap σ) e.2)) = os'.map (fun e => lk os (ap σ e.1)) ∧
    (idsB W rv && os'.all (fun e=>decide (e.1<W) && idsBO W e.2) && decide ((os'.map fun e=>ap σ e.1).Nodup) && decide (m≤W) && (List.range m).all (fun j=>ap σ j==j))=true) :
    EndG m rv os' v os:=ZiQ σ h.1 h.2.1 h.2.2
theorem qE (σ:List (Nat×Nat)) {P:Prop} (w:tX σ P:=by
  refine tI ?_;intro s
  repeat' ((conv=>whnf);first | refine oL ?_ | refine bT h fun h=>?_ | refine bF h fun h=>?_ | refine bS h (fun h=>?_) fun h=>?_ | (cases h;done) | (refine eQ s ?_;cases h;first | exact ⟨trivial,rfl,rfl,rfl⟩ | exact ⟨rfl,rfl,rfl,rfl⟩ | (cases e;exact ⟨rfl,rfl,rfl,rfl⟩)) | refine gX h fun h=>?_ | refine aX ?_ | refine gS h fun h=>?_)):P:=w
theorem qG (σ:List (Nat×Nat)) {P:Prop} (w:tX σ P:=by
  refine tI ?_;intro s
  repeat' ((conv=>whnf);first | refine oL ?_ | refine bT h fun h=>?_ | refine bF h fun h=>?_ | refine bS h (fun h=>?_) fun h=>?_ | (cases h;done) | (refine gQ s ?_;cases h;exact ⟨rfl,rfl,rfl⟩) | refine gX h fun h=>?_ | refine aX ?_ | refine gS h fun h=>?_)):P:=w
theorem qR {P:Prop} (w:P:=by
  repeat' ((conv=>whnf);first | refine oL ?_ | refine bT h fun h=>?_ | refine bF h fun h=>?_ | refine bS h (fun h=>?_) fun h=>?_ | (cases h;done) | (cases h;exact rfl) | refine gX h fun h=>?_ | refine aX ?_ | refine gS h fun h=>?_)):P:=w
theorem qK {P:Prop} (w:P:=by
  repeat' ((conv=>whnf);first | refine oL ?_ | refine bT h fun h=>?_ | refine bF h fun h=>?_ | refine bS h (fun h=>?_) fun h=>?_ | (cases h;done) | (cases h;exact kV) | refine gX h fun h=>?_ | refine aX ?_ | refine gS h fun h=>?_)):P:=w
end Go.Ab
