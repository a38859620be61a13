import Derived.Test.YthohllgoneadhaaGreatDoorAbD
import Derived.Lib.LazyBuf
namespace Go.Ab
theorem ZgP {α β : Type} {f : α → Option β} : ∀ {l : List α} {l' : List β}, Zdm f l = some l' →
    l.length=l'.length∧∀ (i:Nat) x y,l[i]? = some x→l'[i]? = some y→f x=some y:=by
  intro l
  induction l with
  | nil=>intro l' h;simp only [Zdm,Option.some.injEq] at h;subst h;exact ⟨rfl,fun i x y hx=>by simp at hx⟩
  | cons a r ih =>
    intro l' h
    simp only [Zdm] at h
    split at h
    · rename_i y s hy hs
      injection h with h;subst h
      obtain ⟨h1,h2⟩:=ih hs
      refine ⟨by simp [h1],fun i x z hx hz=>?_⟩
      cases i with
      | zero=>simp at hx hz;subst hx;subst hz;exact hy
      | succ i=>exact h2 i x z (by simpa using hx) (by simpa using hz)
    · cases h
section
variable {S:Nat→Prop} {w:World} {ι:Imap} {ol:Nat→Option AO}
def SV (S:Nat→Prop) (ι:Imap) (ol:Nat→Option AO) (V:List Nat) (b:Nat):Prop :=
  S b∨∃ o x l,o∈V∧ol o=some x∧ι o=some (some l)∧b=l.blk
theorem ZfR {V : List Nat} {cl : AV → Option AV} (hcl : ∀ x v x', Rep S w ι x v → cl x = some x' → IRep (SV S ι ol V) w x' v)
    {o:Nat} {y:AO} {rs:List (List AV)} (hy:ObjOk S w ι o y) (h:Zfg cl y=some rs) :
    (ι o=some none∧rs=[])∨∃ l vals,ι o=some (some l)∧rs.length=l.cnt∧ZfK w l rs.length vals ∧
      ∀ (i:Nat) row,rs[i]? = some row→IRepL (SV S ι ol V) w row (vals i):=by
  have up:∀ {row:List AV} {vs:List Value},IRepL S w row vs→IRepL (SV S ι ol V) w row vs:=fun h=>h.mono (fun b hb=>.inl hb) (fun _ _=>rfl)
  unfold Zfg at h
  split at h
  · injection h with h;subst h
    rcases hy with h | ⟨l,vals,h1,h2,h3,h4,h5⟩
    · exact .inl h
    · exact .inr ⟨l,vals,h1,h2,h4,fun i row hr=>up (by have:=h5 i row hr;simpa using this)⟩
  · rename_i rs0
    obtain ⟨hlen,hpt⟩:=ZgP h
    rcases hy with ⟨q,rfl⟩ | ⟨l,vals,h1,h2,h3,h4,h5⟩
    · left;refine ⟨q,?_⟩;simpa using hlen.symm
    · refine .inr ⟨l,vals,h1,by omega,by rw [← hlen];exact h4,fun i row hr=>?_⟩
      have hi:i<rs0.length:=by rw [hlen];exact ZaQ hr
      have hr0:=List.getElem?_eq_getElem hi
      have:=hpt i _ _ hr0 hr
      obtain ⟨hl2,hp2⟩:=ZgP this
      have hrep:=h5.get hr0
      refine ⟨by rw [← hl2];exact hrep.1,fun j x v hx hv=>?_⟩
      have hj:j<rs0[i].length:=by rw [hl2];exact ZaQ hx
      have hx0:=List.getElem?_eq_getElem hj
      exact hcl _ _ _ (hrep.2 j _ v hx0 hv) (hp2 j _ _ hx0 hx)
  · injection h with h;subst h
    rcases hy with h | ⟨l,vals,h1,h2,h3,h4,h5⟩
    · exact .inl h
    · exact .inr ⟨l,vals,h1,h2,h4,fun i row hr=>up (by have:=h5 i row hr;simpa using this)⟩
  · cases h
  · cases h
theorem IRep.empty {S:Nat→Prop} {w:World} (a:Option Addr) (cap:Nat):(a=none→cap=0)→IRep S w (.sl []) (.slice a 0 cap):=by
  intro h
  cases a with
  | none=>rw [h rfl];exact .snil
  | some a =>
    exact IRep.sl [] a cap 0 (fun _=>[]) (by simp) (by simp) (fun h=>absurd rfl h) (fun i r h=>by simp at h) (fun i j v h=>by simp at h) (fun i j r x v h=>by simp at h)
theorem Zel {V : List Nat} (hob : ∀ o x, ol o = some x → ObjOk S w ι o x) : ∀ (n : Nat) (x : AV) (v : Value) (x' : AV), Rep S w ι x v →
    Za8 V ol n x=some x'→IRep (SV S ι ol V) w x' v:=by
  intro n
  induction n with
  | zero=>intro x v x' _ h;simp [Za8] at h
  | succ n ih =>
    intro x v x' hr h
    have up:∀ {x:AV} {v:Value},IRep S w x v→IRep (SV S ι ol V) w x v:=fun h=>h.mono (fun b hb=>.inl hb) (fun _ _=>rfl)
    have lists:∀ {cs cs':List AV} {vs:List Value},RepL S w ι cs vs→Zdm (Za8 V ol n) cs=some cs'→IRepL (SV S ι ol V) w cs' vs:=by
      intro cs cs' vs hL hm
      obtain ⟨hl,hp⟩:=ZgP hm
      refine ⟨by rw [← hl];exact hL.1,fun j x v hx hv=>?_⟩
      have hj:j<cs.length:=by rw [hl];exact ZaQ hx
      have hx0:=List.getElem?_eq_getElem hj
      exact ih _ _ _ (hL.2 j _ v hx0 hv) (hp j _ _ hx0 hx)
    cases x with
    | osw o z =>
      simp only [Za8] at h
      split at h
      · rename_i hV
        split at h
        · rename_i y hy
          simp only [Option.map_eq_some_iff] at h
          obtain ⟨rs,hrs,rfl⟩:=h
          rcases ZfR ih (hob o y hy) hrs with ⟨q,rfl⟩ | ⟨l,vals,q,hcnt,hat,hrep⟩
          · rcases Zdf hr with ⟨l',ab,cap,q',_⟩ | ⟨q',ab,rfl⟩
            · rw [q] at q';cases q'
            · exact IRep.empty ab 0 (fun _=>rfl)
          · rcases Zdf hr with ⟨l',ab,cap,q',rfl,h2,h3,h4,hz,ha⟩ | ⟨q',ab,rfl⟩
            · rw [q] at q';injection q' with q';injection q' with q';subst q'
              rw [← hcnt]
              refine IRep.sl rs ab cap l.esz vals (by omega) (by omega) (fun hne=>?_) (fun i r hri=>?_) (fun i j v hi hv=>?_) (fun i j r x v h1 h2 h3=>?_)
              · have:0<rs.length:=List.length_pos_iff.2 hne
                rw [ha (by omega)]
                exact ⟨.inr ⟨o,y,l,by simpa using hV,hy,q,rfl⟩,rfl⟩
              · have:=(hrep i r hri).1
                have h5:=hat.2.1 i (ZaQ hri)
                exact ⟨by omega,h5⟩
              · have:0<rs.length:=by omega
                rw [ha (by omega)]
                exact hat.2.2 i j v hi hv
              · exact (hrep i r h1).2 j x v h2 h3
            · rw [q] at q';cases q'
        · cases h
      · cases h
    | osl o off len room =>
      simp only [Za8] at h
      split at h
      · rename_i hV
        split at h
        · rename_i y hy
          simp only [Option.map_eq_some_iff] at h
          obtain ⟨rs,hrs,rfl⟩:=h
          rcases ZfR ih (hob o y hy) hrs with ⟨q,rfl⟩ | ⟨l,vals,q,hcnt,hat,hrep⟩
          · rcases Zg9 hr with ⟨l',ab,cap,q',_⟩ | ⟨q',rfl,rfl,rfl,ab,rfl⟩
            · rw [q] at q';cases q'
            · simpa using IRep.empty ab 0 (fun _=>rfl)
          · rcases Zg9 hr with ⟨l',ab,cap,q',rfl,h1,h2,h3,h4,h5,ha⟩ | ⟨q',_⟩
            · rw [q] at q';injection q' with q';injection q' with q';subst q'
              have hlen:((rs.drop off).take len).length=len:=by simp;omega
              have hget:∀ (i:Nat) r,((rs.drop off).take len)[i]? = some r→i<len∧rs[off+i]? = some r:=by
                intro i r hri
                rw [List.getElem?_take] at hri
                split at hri
                · rename_i hi;rw [List.getElem?_drop] at hri;exact ⟨hi,hri⟩
                · cases hri
              have:=IRep.sl (S:=SV S ι ol V) (w:=w) ((rs.drop off).take len) ab cap l.esz (fun i=>vals (off+i)) (by omega) (by omega) (fun hne=>by
                have:0<((rs.drop off).take len).length:=List.length_pos_iff.2 hne
                rw [ha (by omega)]
                exact ⟨.inr ⟨o,y,l,by simpa using hV,hy,q,rfl⟩,rfl⟩) (fun i r hri=>by
                  obtain ⟨hi,hg⟩:=hget i r hri
                  have:=(hrep _ r hg).1
                  have h5:=hat.2.1 _ (ZaQ hg)
                  exact ⟨by omega,h5⟩) (fun i j v hi hv=>by
                  rw [hlen] at hi
                  rw [ha (by omega)]
                  have:=hat.2.2 (off+i) j v (by omega) hv
                  rw [Nat.add_mul] at this
                  simp only
                  rw [show l.base+off * l.esz+(i * l.esz+j)=l.base+(off * l.esz+i * l.esz+j) by omega]
                  exact this) (fun i j r x v h1 h2 h3=>by
                  obtain ⟨hi,hg⟩:=hget i r h1
                  exact (hrep _ r hg).2 j x v h2 h3)
              rw [hlen] at this
              exact this
            · rw [q] at q';cases q'
        · cases h
      · cases h
    | ptr o r c =>
      simp only [Za8] at h
      split at h
      · rename_i hV
        split at h
        · rename_i y hy
          split at h
          · rename_i rs hrs
            split at h
            · rename_i row hrow
              injection h with h;subst h
              obtain ⟨l,hl,rfl⟩:=hr.ptr_inv
              rcases ZfR ih (hob o y hy) hrs with ⟨q,rfl⟩ | ⟨l',vals,q,hcnt,hat,hrep⟩
              · rw [q] at hl;cases hl
              · rw [q] at hl;injection hl with hl;injection hl with hl;subst hl
                have hi:=ZaQ hrow
                have hL:=hrep r row hrow
                have:=IRep.rp (S:=SV S ι ol V) (w:=w) row c l'.blk (l'.base+r * l'.esz) (vals r) (.inr ⟨o,y,l',by simpa using hV,hy,q,rfl⟩) hL.1 (fun j v hv=>by
                  have:=hat.2.2 r j v hi hv
                  rw [← Nat.add_assoc] at this;exact this) hL.2
                rw [← Nat.add_assoc];exact this
            · cases h
          · cases h
        · cases h
      · cases h
    | agg cs =>
      simp only [Za8,Option.map_eq_some_iff] at h
      obtain ⟨cs',hc,rfl⟩:=h
      obtain ⟨vs,rfl,hL⟩:=hr.agg_inv
      have:=lists hL hc
      exact .agg _ _ (by simpa using this.1) (fun j x v hx hv=>this.2 j x v hx (by rw [Array.getElem?_toList];exact hv))
    | tup cs =>
      simp only [Za8,Option.map_eq_some_iff] at h
      obtain ⟨cs',hc,rfl⟩:=h
      obtain ⟨vs,rfl,hL⟩:=hr.tup_inv
      have:=lists hL hc
      exact .tup _ _ (by simpa using this.1) (fun j x v hx hv=>this.2 j x v hx (by rw [Array.getElem?_toList];exact hv))
    | fn f cs =>
      simp only [Za8,Option.map_eq_some_iff] at h
      obtain ⟨cs',hc,rfl⟩:=h
      obtain ⟨vs,rfl,hL⟩:=hr.fn_inv
      have:=lists hL hc
      exact .fn _ _ _ (by simpa using this.1) (fun j x v hx hv=>this.2 j x v hx (by rw [Array.getElem?_toList];exact hv))
    | esl=>simp only [Za8,Option.some.injEq] at h;subst h;exact up (hr.free rfl)
    | mapo o=>simp [Za8] at h
    | int k m=>simp only [Za8,Option.some.injEq] at h;subst h;exact up (hr.free rfl)
    | bool b=>simp only [Za8,Option.some.injEq] at h;subst h;exact up (hr.free rfl)
    | str s=>simp only [Za8,Option.some.injEq] at h;subst h;exact up (hr.free rfl)
    | sl xs=>simp only [Za8,Option.some.injEq] at h;subst h;exact up (hr.free rfl)
    | rp row c=>simp only [Za8,Option.some.injEq] at h;subst h;exact up (hr.free rfl)
    | con u=>simp only [Za8,Option.some.injEq] at h;subst h;exact up (hr.free rfl)
    | undef=>simp only [Za8,Option.some.injEq] at h;subst h;exact up (hr.free rfl)
    | anyb p=>simp only [Za8,Option.some.injEq] at h;subst h;exact up (hr.free rfl)
theorem Zkw {V : List Nat} (hob : ∀ o x, ol o = some x → ObjOk S w ι o x) {n : Nat} {cs cs' : List AV} {vs : List Value} (hL : RepL S w ι cs vs)
    (hm:Zdm (Za8 V ol n) cs=some cs'):IRepL (SV S ι ol V) w cs' vs:=by
  obtain ⟨hl,hp⟩:=ZgP hm
  refine ⟨by rw [← hl];exact hL.1,fun j x v hx hv=>?_⟩
  have hj:j<cs.length:=by rw [hl];exact ZaQ hx
  have hx0:=List.getElem?_eq_getElem hj
  exact Zel hob n _ _ _ (hL.2 j _ v hx0 hv) (hp j _ _ hx0 hx)
end
theorem ZgY:∀ {cs:List AV} {x:AV},flatL cs=true→x∈cs→flat x=true:=by
  intro cs
  induction cs with
  | nil=>intro x _ h;cases h
  | cons a r ih =>
    intro x h hm
    simp only [flatL,Bool.and_eq_true] at h
    cases hm with
    | head=>exact h.1
    | tail _ hm=>exact ih h.2 hm
theorem IRep.flat {S S':Nat→Prop} {w w':World} {x:AV} {v:Value} (h:IRep S w x v) (hf:flat x=true):IRep S' w' x v:=by
  induction h with
  | int k n=>exact .int k n
  | bool b=>exact .bool b
  | str s=>exact .str s
  | con v h=>exact .con v h
  | agg cs vs hl _ ih =>
    refine .agg cs vs hl (fun j x v hx hv=>ih j x v hx hv ?_)
    simp only [Ab.flat] at hf
    exact ZgY hf (List.mem_of_getElem? hx)
  | tup cs vs hl _ ih =>
    refine .tup cs vs hl (fun j x v hx hv=>ih j x v hx hv ?_)
    simp only [Ab.flat] at hf
    exact ZgY hf (List.mem_of_getElem? hx)
  | _=>simp [Ab.flat] at hf
theorem Rep.flat {S S':Nat→Prop} {w w':World} {ι:Imap} {x:AV} {v:Value} (h:Rep S w ι x v) (hf:flat x=true):IRep S' w' x v:=by
  induction h with
  | imm x v h=>exact h.flat hf
  | agg cs vs hl _ ih =>
    refine .agg cs vs hl (fun j x v hx hv=>ih j x v hx hv ?_)
    simp only [Ab.flat] at hf
    exact ZgY hf (List.mem_of_getElem? hx)
  | tup cs vs hl _ ih =>
    refine .tup cs vs hl (fun j x v hx hv=>ih j x v hx hv ?_)
    simp only [Ab.flat] at hf
    exact ZgY hf (List.mem_of_getElem? hx)
  | _=>simp [Ab.flat] at hf
end Go.Ab
namespace Go.Ab
theorem ZkI (base:Nat→Option AO):∀ (U U':List (Nat×Option AO)),updO base (U++U')=updO (updO base U') U:=by
  intro U
  induction U with
  | nil=>intro U';rfl
  | cons e r ih=>intro U';funext o;simp only [List.cons_append,updO,ih]
theorem Zkk {V : List Nat} {ol : Nat → Option AO} {n : Nat} {U : List (Nat × Option AO)} (h : frozen V ol n = some U) (base : Nat → Option AO) (o : Nat) :
    (o∈V∧∃ y rs,ol o=some y∧Zfg (Za8 V ol n) y=some rs∧updO base U o=some (.froz rs))∨(o ∉ V∧updO base U o=base o):=by
  unfold frozen at h
  have : ∀ (V' : List Nat) (U : List (Nat × Option AO)), Zdm (fun o => match ol o with | some y => (Zfg (Za8 V ol n) y).map fun rs => (o, some (AO.froz rs)) | none => none) V' = some U →
      (o∈V'∧∃ y rs,ol o=some y∧Zfg (Za8 V ol n) y=some rs∧updO base U o=some (.froz rs))∨(o ∉ V'∧updO base U o=base o):=by
    intro V'
    induction V' with
    | nil=>intro U h;simp only [Zdm,Option.some.injEq] at h;subst h;exact .inr ⟨by simp,rfl⟩
    | cons k r ih =>
      intro U h
      simp only [Zdm] at h
      split at h
      · rename_i y s hy hs
        injection h with h;subst h
        split at hy
        · rename_i z hz
          simp only [Option.map_eq_some_iff] at hy
          obtain ⟨rs,hrs,rfl⟩:=hy
          by_cases e:o=k
          · subst e
            left;exact ⟨by simp,z,rs,hz,hrs,by simp [updO]⟩
          · rcases ih s hs with ⟨h1,h2⟩ | ⟨h1,h2⟩
            · left;refine ⟨by simp [h1],?_⟩
              obtain ⟨y,rs',q1,q2,q3⟩:=h2
              exact ⟨y,rs',q1,q2,by simp [updO,e,q3]⟩
            · right;exact ⟨by simp [e,h1],by simp [updO,e,h2]⟩
        · cases hy
      · cases h
  exact this V U h
section
variable {C:Cx} {S:Nat→Prop} {w:World} {ι:Imap} {P:Program} {un:Nat→Prop} {f:FS} {a:Act} {id:Nat} {o:Oper}
  {next:Act→World→Prop} {Q:Exit→Act→World→Prop}
theorem SV_lt (h:Inv C S ι un f a w) (V:List Nat):∀ b,SV S ι f.os V b→b<w.heap.size:=by
  rintro b (hb | ⟨o',x,l,_,hox,hl,rfl⟩)
  · exact h.sb b hb
  · by_cases hlv:x.live=true
    · exact (h.own o' x hox hlv l hl _ (.inl rfl)).2.2
    · have:=h.ob o' x hox
      cases x with
      | froz rs =>
        rcases this with ⟨q,_⟩ | ⟨l',vals,q,_,hS,_⟩
        · rw [q] at hl;cases hl
        · rw [q] at hl;injection hl with hl;injection hl with hl;subst hl;exact h.sb _ hS
      | rows p rs=>exact absurd rfl hlv
      | mapo p es=>exact absurd rfl hlv
      | lit rs=>exact absurd rfl hlv
theorem Inv.freeze (h : Inv C S ι un f a w) {V : List Nat} {n : Nat} {U : List (Nat × Option AO)} (hU : frozen V f.os n = some U) :
    Inv C (SV S ι f.os V) ι un {f with os:=updO f.os U} a w:=by
  have hcase:∀ o x,updO f.os U o=some x→(o∈V∧∃ y rs,f.os o=some y∧Zfg (Za8 V f.os n) y=some rs∧x = .froz rs)∨(o ∉ V∧f.os o=some x):=by
    intro o x hx
    rcases Zkk hU f.os o with ⟨h1,y,rs,h2,h3,h4⟩ | ⟨h1,h2⟩
    · rw [h4] at hx;injection hx with hx
      exact .inl ⟨h1,y,rs,h2,h3,hx.symm⟩
    · rw [h2] at hx;exact .inr ⟨h1,hx⟩
  refine h.turn (fun b hb=>.inl hb) (fun _ _=>rfl) (Imap.le_refl _) ?_ ?_ ?_ (SV_lt h V) (fun b hb=>?_) h.un h.fr
  · intro o x hx
    rcases hcase o x hx with ⟨h1,y,rs,h2,h3,rfl⟩ | ⟨h1,h2⟩
    · rcases ZfR (Zel h.ob n) (h.ob o y h2) h3 with ⟨q,rfl⟩ | ⟨l,vals,q,hcnt,hat,hrp⟩
      · exact .inl ⟨q,rfl⟩
      · exact .inr ⟨l,vals,q,hcnt,.inr ⟨o,y,l,h1,h2,q,rfl⟩,hat,fun i r hr=>by simp only [if_true];exact hrp i r hr⟩
    · exact (h.ob o x h2).mono (fun b hb=>.inl hb) (fun _ _=>rfl) (Imap.le_refl _) (fun _ _ _ _ _=>rfl)
  · intro o x hx hlv l hl b hb
    rcases hcase o x hx with ⟨h1,y,rs,h2,h3,rfl⟩ | ⟨h1,h2⟩
    · cases hlv
    · have:=h.own o x h2 hlv l hl b hb
      refine ⟨this.1,fun hs=>?_,this.2.2⟩
      rcases hs with q | ⟨o2,x2,l2,q1,q2,q3,q4⟩
      · exact this.2.1 q
      · by_cases hlv2:x2.live=true
        · have:=h.inj o o2 x x2 h2 q2 hlv hlv2 l l2 hl q3 b hb (.inl q4)
          subst this;exact h1 q1
        · have hob2:=h.ob o2 x2 q2
          cases x2 with
          | froz rs =>
            rcases hob2 with ⟨q,_⟩ | ⟨l',vals,q,_,hS,_⟩
            · rw [q] at q3;cases q3
            · rw [q] at q3;injection q3 with q3;injection q3 with q3;subst q3
              rw [← q4] at hS;exact this.2.1 hS
          | rows p rs=>exact absurd rfl hlv2
          | mapo p es=>exact absurd rfl hlv2
          | lit rs=>exact absurd rfl hlv2
  · intro o1 o2 x1 x2 hx1 hx2 hlv1 hlv2 l1 l2 e1 e2 b hb hb2
    rcases hcase o1 x1 hx1 with ⟨h1,y,rs,h2,h3,rfl⟩ | ⟨h1,h2⟩
    · cases hlv1
    · rcases hcase o2 x2 hx2 with ⟨g1,y,rs,g2,g3,rfl⟩ | ⟨g1,g2⟩
      · cases hlv2
      · exact h.inj o1 o2 x1 x2 h2 g2 hlv1 hlv2 l1 l2 e1 e2 b hb hb2
  · rcases hb with q | ⟨o2,x2,l2,q1,q2,q3,q4⟩
    · exact h.sn b q
    · subst q4
      by_cases hlv2:x2.live=true
      · right;exact (h.own o2 x2 q2 hlv2 l2 q3 _ (.inl rfl)).1
      · have hob2:=h.ob o2 x2 q2
        cases x2 with
        | froz rs =>
          rcases hob2 with ⟨q,_⟩ | ⟨l',vals,q,_,hS,_⟩
          · rw [q] at q3;cases q3
          · rw [q] at q3;injection q3 with q3;injection q3 with q3;subst q3
            exact h.sn _ hS
        | rows p rs=>exact absurd rfl hlv2
        | mapo p es=>exact absurd rfl hlv2
        | lit rs=>exact absurd rfl hlv2
end
end Go.Ab
namespace Go.Ab
section
variable {C:Cx} {S:Nat→Prop} {w:World} {ι:Imap} {P:Program} {un:Nat→Prop} {f:FS} {a:Act} {id:Nat} {o:Oper}
  {next:Act→World→Prop} {Q:Exit→Act→World→Prop}
theorem ZjG {t : TypeId} {x y : Operand} {ob i c : Nat} {p : Bool} {rs : List (List AV)} {row cs : List AV} {b : Bool} {n : Nat} {v : AV} (hop : o.op = .store t x y) (h : Inv C S ι un f a w)
    (hx:Rep S w ι (.ptr ob i c) (a.eval x)) (ho:f.os ob=some (.rows p rs)) (hr:rs[i]? = some row) (hy:Rep S w ι v (a.eval y)) (hc:ZbD v=some cs) (hk:kindT P t=some (b,n)) (hlen:cs.length=n)
    (hb:c+n≤row.length) (hd:∀ d,o.dst=some d→C.N.lo≤d∧d<C.N.n) (hn:Goes C un id o f .undef [(ob,some (.rows (p && cs.all ZdG) (rs.set i (setAt row c cs))))] next):o.wp P a w next Q:=by
  obtain ⟨l,hl1,hv⟩:=hx.ptr_inv
  obtain ⟨hvs,hall⟩:=ZdE hc hy
  rcases h.ob ob _ ho with ⟨q,_⟩ | ⟨l',vals,q,hcnt,hm,hat,hrep⟩
  · rw [q] at hl1;cases hl1
  · rw [q] at hl1;injection hl1 with hl1;injection hl1 with hl1;subst hl1
    have hi:=ZaQ hr
    have hrl:=(hrep.get hr).1
    have hve:=hat.2.1 i hi
    have hsz:l'.base+(i * l'.esz+c)+n≤l'.size:=by
      have:(i+1) * l'.esz≤rs.length * l'.esz:=Nat.mul_le_mul_right _ hi
      rw [Nat.add_mul] at this
      have:=hat.1
      omega
    have hvl:(a.eval y).cells.toList.length=n:=by rw [← hvs.1];exact hlen
    have hstore : (storeCells ⟨l'.blk, l'.base + (i * l'.esz + c), none⟩ (a.eval y).cells.toList 0).run P w =
        .ok () (w.setCells l'.blk (l'.base+(i * l'.esz+c)) (a.eval y).cells.toList):=by
      refine run_storeCells_cells _ _ _ 0 w (fun j hj=>?_) (fun j hj=>?_) (fun v hv=>?_)
      · obtain ⟨u,hu⟩:=(hm (l'.base+(i * l'.esz+c)+j)).1 (by omega)
        simp only [Zbr] at hu
        simp only [Nat.add_zero]
        rw [hu];rfl
      · simp only [Nat.add_zero]
        exact (hm (l'.base+(i * l'.esz+c)+j)).2 (.inl (by omega))
      · exact ZeS hvs hall v hv
    have hrun:(execOp a.eval o).run P w = .ok .skip (w.setCells l'.blk (l'.base+(i * l'.esz+c)) (a.eval y).cells.toList):=by
      unfold execOp;rw [hop]
      simp only [Instr.storeAt,hv,Instr.sureAddr,Sem.run_bind,Sem.run_pure,Result.andThen_ok,storeVar,(Zc7 hk w).2,Sem.run_ite]
      rw [if_neg (by simp only [ne_eq,Decidable.not_not];rw [← Array.length_toList];exact hvl)]
      simp only [Result.andThen_ok,hstore]
    unfold Oper.wp
    rw [hrun,Oper.upon_skip]
    have hinv:=h.writes ho rfl q (x':=.rows (p && cs.all ZdG) (rs.set i (setAt row c cs))) rfl (l'.base+(i * l'.esz+c)) (a.eval y).cells.toList (fun hw =>
      Zmq q hcnt hm hat hrep hr hvs (ZeS hvs hall) (by omega) hw)
    exact Inv.goes hn hinv (fun x hx=>hx.1) (.imm _ _ (.undef _)) hd
theorem ZoB {op : Op} {v : AV} {U : List (Nat × Option AO)} {RO : List Nat} (hop : o.op = op) (h : Inv C S ι un f a w)
    (hst:AStep P C.G (evA C.G f.g) f.os id op v U RO) (hcall:∀ c,op = .call c→∃ b,c.callee = .builtin b)
    (hid:∀ x,id≤x→x<id+W→un x) (hd:∀ d,o.dst=some d→C.N.lo≤d∧d<C.N.n) (hn:Goes C un id o f v U next):o.wp P a w next Q:=by
  have lift:∀ {s:Sem Value} {v':Value} {w':World},(execOp a.eval o)=(do pure (Next.value (← s)):Sem Next)→s.run P w = .ok v' w'→(execOp a.eval o).run P w = .ok (.value v') w':=by
    intro s v' w' e h1
    rw [e];simp only [Sem.run_bind,h1,Result.andThen_ok,Sem.run_pure]
  cases hst with
  | pure op v hp =>
    subst hop
    obtain ⟨v',h1,h2⟩:=ZpX h.ev o hp
    exact Zbd hn h hd h1 h2
  | more op v U RO hb=>exact Zpn hop h hb hid hd hn
  | files op v U RO hb=>exact Zo7 hop h hb hid hd hn
  | nil z =>
    have hrun:(execOp a.eval o).run P w = .ok (.value (.slice none 0 0)) w:=by unfold execOp;rw [hop];rfl
    unfold Oper.wp
    rw [hrun,Oper.upon_value]
    have hnone:=h.un id (hid id (Nat.le_refl _) (by simp [W]))
    have hι:ι.le (fun o=>if o=id then some none else ι o):=by
      intro o y hy
      by_cases e:o=id
      · subst e;rw [hnone] at hy;cases hy
      · simp [e,hy]
    have hw:ZbV S w w:=fun _ _=>rfl
    have hinv:Inv C S (fun o=>if o=id then some none else ι o) (fun o=>un o∧o≠id) {f with os:=updO f.os [(id,some (.rows true []))]} a w:=by
      refine h.turn (fun _ x=>x) hw hι ?_ ?_ ?_ h.sb h.sn (fun o ho=>?_) h.fr
      · intro o y hy
        simp only [updO] at hy
        by_cases e:o=id
        · subst e
          simp only [if_true,Option.some.injEq] at hy
          subst hy
          exact .inl ⟨by simp,rfl⟩
        · simp only [e,if_false] at hy
          exact (h.ob o y hy).mono (fun _ x=>x) hw hι (fun _ _ _ _ _=>rfl)
      · intro o y hy hly l' hl' b hb
        simp only [updO] at hy
        by_cases e:o=id
        · subst e;simp at hl'
        · simp only [e,if_false] at hy hl'
          exact h.own o y hy hly l' hl' b hb
      · intro o1 o2 y1 y2 hy1 hy2 hl1 hl2 l1 l2 e1 e2 b hb hb2
        simp only [updO] at hy1 hy2
        by_cases e:o1=id
        · subst e;simp at e1
        · by_cases e':o2=id
          · subst e';simp at e2
          · simp only [e,e',if_false] at hy1 hy2 e1 e2
            exact h.inj o1 o2 y1 y2 hy1 hy2 hl1 hl2 l1 l2 e1 e2 b hb hb2
      · simp only [ho.2,if_false];exact h.un o ho.1
    exact Inv.goes hn hinv (fun x hx=>⟨hx.1,fun e=>hx.2 ⟨by omega,by subst e;simp [W]⟩⟩) (.oswv id z none (by simp)) hd
  | pick c x y t hc =>
    have hcv:=h.ev c
    rw [hc] at hcv
    have hrun:(execOp a.eval o).run P w = .ok (.value (if t then a.eval x else a.eval y)) w:=by
      unfold execOp;rw [hop];simp only [hcv.bool_inv,asBool,Sem.run_bind,Sem.run_pure,Result.andThen_ok]
    refine Zbd hn h hd hrun ?_
    cases t
    · simpa using h.ev y
    · simpa using h.ev x
  | alloc t cs hz =>
    obtain ⟨z,h1,h2,h3⟩:=ZjE (w:=w) (S:=S) (ι:=ι) hz
    refine ZpF hn h hd hid rfl h2 h3 (t:=t) ?_
    refine lift (by unfold execOp;rw [hop]) ?_
    simp only [Instr.alloc,Sem.run_bind,h1,Result.andThen_ok,newVar,newRow,run_newObj,Sem.run_pure,World.alloc]
  | box t x cs hc =>
    obtain ⟨h2,h3⟩:=ZdE hc (h.ev x)
    refine ZpF hn h hd hid rfl h2 (ZeS h2 h3) (t:=t) ?_
    refine lift (by unfold execOp;rw [hop]) ?_
    simp only [Instr.box,newVar,newRow,Sem.run_bind,run_newObj,Result.andThen_ok,Sem.run_pure,World.alloc]
  | load t x ob i c p rs row v hev ho hr hl =>
    have hx:=h.ev x
    rw [hev] at hx
    obtain ⟨l,hl1,hv⟩:=hx.ptr_inv
    rcases h.ob ob _ ho with ⟨q,_⟩ | ⟨l',vals,q,hcnt,hm,hat,hrep⟩
    · rw [q] at hl1;cases hl1
    · rw [q] at hl1;injection hl1 with hl1;injection hl1 with hl1;subst hl1
      have hi:=ZaQ hr
      obtain ⟨v',h1,h2⟩:=Zge (P:=P) (b0:=l'.base+i * l'.esz) (hrep.get hr) (fun j v hv=>by
        have:=hat.2.2 i j v hi hv
        rw [← Nat.add_assoc] at this;exact this) hl
      refine Zbd hn h hd (lift (by unfold execOp;rw [hop]) ?_) h2
      unfold Instr.loadAt
      rw [hv]
      simp only [Instr.sureAddr,Sem.run_bind,Sem.run_pure,Result.andThen_ok]
      rw [← Nat.add_assoc];exact h1
  | loadf t x ob i c rs row v hev ho hr hl =>
    have hx:=h.ev x
    rw [hev] at hx
    obtain ⟨l,hl1,hv⟩:=hx.ptr_inv
    rcases h.ob ob _ ho with ⟨q,_⟩ | ⟨l',vals,q,hcnt,hm,hat,hrep⟩
    · rw [q] at hl1;cases hl1
    · rw [q] at hl1;injection hl1 with hl1;injection hl1 with hl1;subst hl1
      have hi:=ZaQ hr
      obtain ⟨v',h1,h2⟩:=Zge (P:=P) (b0:=l'.base+i * l'.esz) (hrep.get hr) (fun j v hv=>by
        have:=hat.2.2 i j v hi hv
        rw [← Nat.add_assoc] at this;exact this) hl
      refine Zbd hn h hd (lift (by unfold execOp;rw [hop]) ?_) h2
      unfold Instr.loadAt
      rw [hv]
      simp only [Instr.sureAddr,Sem.run_bind,Sem.run_pure,Result.andThen_ok]
      rw [← Nat.add_assoc];exact h1
  | loadr t x row c v hev hl =>
    have hx:=h.ev x
    rw [hev] at hx
    obtain ⟨blk,base,vals,hv,hS,hL,hcell⟩:=Zpw hx
    obtain ⟨v',h1,h2⟩:=Zge (P:=P) (ι:=ι) hL.rep hcell hl
    refine Zbd hn h hd (lift (by unfold execOp;rw [hop]) ?_) h2
    unfold Instr.loadAt
    rw [hv]
    simp only [Instr.sureAddr,Sem.run_bind,Sem.run_pure,Result.andThen_ok]
    exact h1
  | store t x y ob i c p rs row cs b n hev ho hr hc hk hlen hb =>
    have hx:=h.ev x
    rw [hev] at hx
    exact ZjG hop h hx ho hr (h.ev y) hc hk hlen hb hd hn
  | storeZ t x y ob i c p rs row b q z xs hev ho hr hxe hq hne hk hb =>
    have hU:frozen [q] f.os 8=some [(q,some (.froz xs))]:=by simp [frozen,Zdm,hq,Zfg]
    have h':=h.freeze hU
    have hv:=Zel (V:=[q]) h.ob 8 (.osw q z) (a.eval y) (.sl xs) (by rw [← hxe];exact h.ev y) (by simp [Za8,hq,Zfg])
    have hx:=h'.ev x
    rw [hev] at hx
    refine ZjG (id:=id) hop h' hx (p:=p) (rs:=rs) (row:=row) (cs:=[.sl xs]) ?_ hr (.imm _ _ hv) (by rfl) hk rfl hb hd ?_
    · show updO f.os [(q,some (.froz xs))] ob=_
      simp only [updO,if_neg hne];exact ho
    · intro S' ι' a' w' hi
      refine hn S' ι' a' w' ?_
      have e : FS.upd { f with os := updO f.os [(q, some (.froz xs))] } o.dst .undef [(ob, some (.rows (p && [AV.sl xs].all ZdG) (rs.set i (setAt row c [.sl xs]))))] =
          f.upd o.dst .undef [(ob,some (.rows (p && [AV.sl xs].all ZdG) (rs.set i (setAt row c [.sl xs])))),(q,some (.froz xs))]:=by
        unfold FS.upd FS.put
        cases o.dst<;>rfl
      rw [← e];exact hi
  | idxSl t e x ix xs k n row b hev hix h0 hr ht hk =>
    have hx:=h.ev x
    have hi:=h.ev ix
    rw [hev] at hx;rw [hix] at hi
    obtain ⟨ab,cap,sz,vals,hv,hsp,hS,hsz,hL,hcell⟩:=ZqO hx hr
    have hlt:=ZaQ hr
    refine Zbd hn h hd (lift (by unfold execOp;rw [hop]) (by
      rw [hv,hi.int_inv];exact Zhc ht hk h0 (by omega) hsp)) ?_
    have:=IRep.rp row 0 ab.block (ab.off+n.toNat * sz) vals hS hL.1 (fun j v hv=>hcell j v hv) hL.2
    rw [hsz]
    exact .imm _ _ this
  | idxOsw t e x ix ob z k n y rs row b hev hix h0 ho hy hr ht hk =>
    have hx:=h.ev x
    have hi:=h.ev ix
    rw [hev] at hx;rw [hix] at hi
    have hlt:=ZaQ hr
    rcases Zgd (h.ob ob _ ho) hy with ⟨q,rfl⟩ | ⟨l,vals,q,hcnt,hat,hrep⟩
    · simp at hr
    · rcases Zdf hx with ⟨l',ab,cap,q',hv,hc1,hc2,hc3,_,ha⟩ | ⟨q',_⟩
      · rw [q] at q';injection q' with q';injection q' with q';subst q'
        have hab:=ha (by omega)
        have hrl:=(hrep _ _ hr).1
        have hve:=hat.2.1 _ hlt
        refine Zbd hn h hd (lift (by unfold execOp;rw [hop]) (by
          rw [hv,hi.int_inv];exact Zhc ht hk h0 (by omega) (by rw [hab]))) ?_
        rw [hab]
        have:=Rep.ptr (S:=S) (w:=w) (ι:=ι) ob n.toNat 0 l q
        have e:row.length=l.esz:=by omega
        simp only
        rw [e]
        exact this
      · rw [q] at q';cases q'
  | idxOsl t e x ix ob off len room k n y rs row b hev hix h0 h1 ho hy hr ht hk =>
    have hx:=h.ev x
    have hi:=h.ev ix
    rw [hev] at hx;rw [hix] at hi
    have hlt:=ZaQ hr
    rcases Zgd (h.ob ob _ ho) hy with ⟨q,rfl⟩ | ⟨l,vals,q,hcnt,hat,hrep⟩
    · simp at hr
    · rcases Zg9 hx with ⟨l',ab,cap,q',hv,hc1,hc2,hc3,hc4,hc5,ha⟩ | ⟨q',_⟩
      · rw [q] at q';injection q' with q';injection q' with q';subst q'
        have hab:=ha (by omega)
        have hrl:=(hrep _ _ hr).1
        have hve:=hat.2.1 _ hlt
        refine Zbd hn h hd (lift (by unfold execOp;rw [hop]) (by
          rw [hv,hi.int_inv];exact Zhc ht hk h0 (by omega) (by rw [hab]))) ?_
        rw [hab]
        have:=Rep.ptr (S:=S) (w:=w) (ι:=ι) ob (off+n.toNat) 0 l q
        simp only
        rw [show row.length=l.esz by omega,Nat.add_assoc,← Nat.add_mul]
        simpa using this
      · rw [q] at q';cases q'
  | idxArr t e x ix ob r c len sz k n b hev hix h0 h1 ht hk =>
    have hx:=h.ev x
    have hi:=h.ev ix
    rw [hev] at hx;rw [hix] at hi
    obtain ⟨l,hl1,hv⟩:=hx.ptr_inv
    refine Zbd hn h hd (lift (by unfold execOp;rw [hop]) (by
      rw [hv,hi.int_inv];exact Zih ht hk h0 h1)) ?_
    have:=Rep.ptr (S:=S) (w:=w) (ι:=ι) ob r (c+n.toNat * sz) l hl1
    rw [show l.base+(r * l.esz+(c+n.toNat * sz))=l.base+(r * l.esz+c)+n.toNat * sz by omega] at this
    exact this
  | idxArrR t e x ix row c len sz k n b hev hix h0 h1 ht hk =>
    have hx:=h.ev x
    have hi:=h.ev ix
    rw [hev] at hx;rw [hix] at hi
    obtain ⟨blk,base,vals,hv,hS,hL,hcell⟩:=Zpw hx
    refine Zbd hn h hd (lift (by unfold execOp;rw [hop]) (by
      rw [hv,hi.int_inv];exact Zih ht hk h0 h1)) ?_
    rw [Nat.add_assoc]
    exact .imm _ _ (.rp row _ blk base vals hS hL.1 hcell hL.2)
  | strIx t x ix l k n c hev hix h0 hr ht =>
    have hx:=h.ev x
    have hi:=h.ev ix
    rw [hev] at hx;rw [hix] at hi
    refine Zbd hn h hd (lift (by unfold execOp;rw [hop]) ?_) (.imm _ _ (.int _ _))
    rw [hx.str_inv,hi.int_inv]
    unfold Instr.index
    have hb:(⟨l.toArray⟩:ByteArray)[n.toNat]? = some c:=by
      have hlt:=ZaQ hr
      have hs:n.toNat<(⟨l.toArray⟩:ByteArray).size:=by show n.toNat<l.toArray.size;simpa using hlt
      rw [ByteArray.getElem?_lt' _ _ hs]
      rw [List.getElem?_eq_getElem hlt] at hr
      rw [← hr];rfl
    simp only [asIntOf,Sem.run_bind,Sem.run_pure,Result.andThen_ok,run_underlying ht,h0,if_true,hb]
  | arrIx t e x ix cs len sz k n b v hev hix h0 h1 ht hk hl =>
    have hx:=h.ev x
    have hi:=h.ev ix
    rw [hev] at hx;rw [hix] at hi
    obtain ⟨vs,hv,hL⟩:=hx.agg_inv
    obtain ⟨v',hp1,hp2⟩:=Zno hL hl
    refine Zbd hn h hd (lift (by unfold execOp;rw [hop]) ?_) hp2
    rw [hv,hi.int_inv]
    unfold Instr.index
    simp only [asIntOf,Sem.run_bind,Sem.run_pure,Result.andThen_ok,run_underlying ht,(Zc7 hk w).2,Sem.run_ite]
    rw [if_pos ⟨h0,h1⟩]
    exact hp1
  | quo t t' x y k m n hx hy h0 =>
    have h1:=h.ev x;have h2:=h.ev y
    rw [hx] at h1;rw [hy] at h2
    refine Zbd hn h hd (lift (by unfold execOp;rw [hop]) ?_) (.imm _ _ (.int _ _))
    rw [h1.int_inv,h2.int_inv]
    simp only [eqGuard_quo,Sem.run_bind,Sem.run_pure,Result.andThen_ok,binOp_quo,Op.intDiv,h0,if_false]
  | rem t t' x y k m n hx hy h0 =>
    have h1:=h.ev x;have h2:=h.ev y
    rw [hx] at h1;rw [hy] at h2
    refine Zbd hn h hd (lift (by unfold execOp;rw [hop]) ?_) (.imm _ _ (.int _ _))
    rw [h1.int_inv,h2.int_inv]
    simp only [eqGuard_rem,Sem.run_bind,Sem.run_pure,Result.andThen_ok,binOp_rem,Op.intDiv,h0,if_false]
  | shl t t' x y k k' m n hx hy h0 =>
    have h1:=h.ev x;have h2:=h.ev y
    rw [hx] at h1;rw [hy] at h2
    refine Zbd hn h hd (lift (by unfold execOp;rw [hop]) ?_) (.imm _ _ (.int _ _))
    rw [h1.int_inv,h2.int_inv]
    simp only [eqGuard_shl,Sem.run_bind,Sem.run_pure,Result.andThen_ok,binOp_shl,Op.shift]
    rw [if_neg (by omega)]
    rfl
  | shr t t' x y k k' m n hx hy h0 =>
    have h1:=h.ev x;have h2:=h.ev y
    rw [hx] at h1;rw [hy] at h2
    refine Zbd hn h hd (lift (by unfold execOp;rw [hop]) ?_) (.imm _ _ (.int _ _))
    rw [h1.int_inv,h2.int_inv]
    simp only [eqGuard_shr,Sem.run_bind,Sem.run_pure,Result.andThen_ok,binOp_shr,Op.shift]
    rw [if_neg (by omega)]
    rfl
  | cat t t' x y l1 l2 hx hy hlen =>
    have h1:=h.ev x;have h2:=h.ev y
    rw [hx] at h1;rw [hy] at h2
    refine Zbd hn h hd (lift (by unfold execOp;rw [hop]) ?_) (.imm _ _ (IRep.str_mk (l1++l2)))
    rw [h1.str_inv,h2.str_inv]
    have e1:(⟨l1.toArray⟩:ByteArray).size=l1.length:=by show l1.toArray.size=_;simp
    have e2:(⟨l2.toArray⟩:ByteArray).size=l2.length:=by show l2.toArray.size=_;simp
    simp only [eqGuard_add,Sem.run_bind,Sem.run_pure,Result.andThen_ok,binOp_string_add,Op.stringOp,e1,e2]
    rw [if_neg (by simp only [IntKind.max_i64];omega)]
    simp only [Sem.run_pure,Result.ok.injEq,Value.string.injEq,and_true]
    apply ByteArray.ext
    simp
  | nilq t t' e x xs hx ht =>
    have h1:=h.ev x
    rw [hx] at h1
    cases h1 with
    | imm _ _ h1 =>
      generalize hv:a.eval x=u at h1
      cases h1 with
      | snil =>
        refine Zbd hn h hd (v':=.bool true) (lift (by unfold execOp;rw [hop]) ?_) (.imm _ _ (.anyb _ true fun _=>rfl))
        rw [hv]
        simp only [show a.eval (.const (.slice none 0 0)) = .slice none 0 0 from rfl,eqGuard_at_slice,Sem.run_bind,Sem.run_pure,Result.andThen_ok]
        exact run_eql_slice_nil w t e none 0 0 ht
      | sl xs a' cap sz vals h2 h3 h4 h5 h6 h7 =>
        refine Zbd hn h hd (v':=.bool false) (lift (by unfold execOp;rw [hop]) ?_) (.imm _ _ (.anyb _ false fun e=>by cases e))
        rw [hv]
        simp only [show a.eval (.const (.slice none 0 0)) = .slice none 0 0 from rfl,eqGuard_at_slice,Sem.run_bind,Sem.run_pure,Result.andThen_ok]
        exact run_eql_slice_nil w t e (some a') xs.length cap ht
  | eqAgg t t' x y cs ds r hx hy hp hg hst hc1 hc2 he =>
    have h1:=h.ev x;have h2:=h.ev y
    rw [hx] at h1;rw [hy] at h2
    obtain ⟨us,hu,hL1⟩:=h1.agg_inv
    obtain ⟨vs,hv,hL2⟩:=h2.agg_inv
    refine Zbd hn h hd (lift (by unfold execOp;rw [hop]) ?_) (.imm _ _ (.bool r))
    rw [hu,hv]
    have:=Zol hL1 hL2 hp hc1 hc2 he hst
    simp only [Sem.run_bind,run_eqGuard_agg w _ t _ _ _ _ hg,Result.andThen_ok,run_eql_struct,this]
  | neAgg t t' x y cs ds r hx hy hp hg hst hc1 hc2 he =>
    have h1:=h.ev x;have h2:=h.ev y
    rw [hx] at h1;rw [hy] at h2
    obtain ⟨us,hu,hL1⟩:=h1.agg_inv
    obtain ⟨vs,hv,hL2⟩:=h2.agg_inv
    refine Zbd hn h hd (lift (by unfold execOp;rw [hop]) ?_) (.imm _ _ (.bool (!r)))
    rw [hu,hv]
    have:=Zol hL1 hL2 hp hc1 hc2 he hst
    simp only [Sem.run_bind,run_eqGuard_agg w _ t _ _ _ _ hg,Result.andThen_ok,run_neq_struct,this]
  | lenOsw x ts args t e ob z y rs ha hts ht hev ho hy =>
    have hx:=h.ev x
    rw [hev] at hx
    have hrun:∀ base cap,a.eval x = .slice base rs.length cap→(execOp a.eval o).run P w = .ok (.value (.int .i64 rs.length)) w:=by
      intro base cap hv
      unfold execOp;rw [hop]
      have hxs:(args.map a.eval)[0]? = some (.slice base rs.length cap):=by simp [ha,hv]
      simp [resolve,invoke,builtin,Builtin.len_,hts,hxs,run_underlying ht,goInt]
    rcases Zgd (h.ob ob _ ho) hy with ⟨q,rfl⟩ | ⟨l,vals,q,hcnt,hat,hrep⟩
    · rcases Zdf hx with ⟨l',ab,cap,q',_⟩ | ⟨q',ab,hv⟩
      · rw [q] at q';cases q'
      · exact Zbd hn h hd (hrun _ _ hv) (.imm _ _ (.int _ _))
    · rcases Zdf hx with ⟨l',ab,cap,q',hv,_⟩ | ⟨q',ab,hv⟩
      · rw [q] at q';injection q' with q';injection q' with q';subst q'
        exact Zbd hn h hd (hrun (some ab) cap (by rw [hcnt];exact hv)) (.imm _ _ (.int _ _))
      · rw [q] at q';cases q'
  | call fn args ts f' cap V n argsC rv hev=>obtain ⟨b,hb⟩:=hcall _ rfl;cases hb
  | callF fn args ts f' cap V n argsC rv os' U hev=>obtain ⟨b,hb⟩:=hcall _ rfl;cases hb
  | callG fn args ts f' cap V oin argsC rv os' hev=>obtain ⟨b,hb⟩:=hcall _ rfl;cases hb
end
end Go.Ab
namespace Go.Ab
theorem Zop {id : Nat} : ∀ {os : List (Nat × AO)} (base : Nat → Option AO) (o : Nat),
    updO base (Zhu id os) o=if id≤o∧(lk os (o - id)).isSome then (lk os (o - id)).map (renO (id + ·)) else base o:=by
  intro os
  induction os with
  | nil=>intro base o;simp [Zhu,updO,lk]
  | cons e r ih =>
    intro base o
    have:=ih base o
    simp only [Zhu,List.map_cons,updO] at this ⊢
    by_cases h:o=id+e.1
    · subst h
      rw [if_pos rfl]
      simp [lk]
    · rw [if_neg h,this]
      by_cases h1:id≤o
      · have:o - id≠e.1:=by omega
        simp [lk,this]
      · simp [h1]
theorem Zfy (σ:Nat→Nat):∀ l:List AV,renL σ l=l.map (renAV σ):=by
  intro l
  induction l with
  | nil=>rfl
  | cons x r ih=>simp [renL,ih]
theorem Rep.ren {S : Nat → Prop} {w : World} {ι ι' : Imap} {σ : Nat → Nat} (hσ : ∀ o y, ι o = some y → ι' (σ o) = some y) {x : AV} {v : Value} (h : Rep S w ι x v) :
    Rep S w ι' (renAV σ x) v:=by
  induction h with
  | imm x v h =>
    -- a value that names no object stays but for lists
    induction h with
    | agg cs vs hl _ ih =>
      simp only [renAV,Zfy]
      refine .agg _ vs (by simpa using hl) (fun j x v hx hv=>?_)
      rw [List.getElem?_map] at hx
      cases hj:cs[j]? with
      | none=>rw [hj] at hx;cases hx
      | some y=>rw [hj] at hx;simp only [Option.map_some,Option.some.injEq] at hx;subst hx;exact ih j y v hj hv
    | tup cs vs hl _ ih =>
      simp only [renAV,Zfy]
      refine .tup _ vs (by simpa using hl) (fun j x v hx hv=>?_)
      rw [List.getElem?_map] at hx
      cases hj:cs[j]? with
      | none=>rw [hj] at hx;cases hx
      | some y=>rw [hj] at hx;simp only [Option.map_some,Option.some.injEq] at hx;subst hx;exact ih j y v hj hv
    | fn f cs vs hl _ ih =>
      simp only [renAV,Zfy]
      refine .fn f _ vs (by simpa using hl) (fun j x v hx hv=>?_)
      rw [List.getElem?_map] at hx
      cases hj:cs[j]? with
      | none=>rw [hj] at hx;cases hx
      | some y=>rw [hj] at hx;simp only [Option.map_some,Option.some.injEq] at hx;subst hx;exact ih j y v hj hv
    | int k n=>exact .imm _ _ (.int k n)
    | bool b=>exact .imm _ _ (.bool b)
    | str s=>exact .imm _ _ (.str s)
    | esl a=>exact .imm _ _ (.esl a)
    | snil=>exact .imm _ _ .snil
    | sl xs a cap sz vals h1 h2 h3 h4 h5 h6=>exact .imm _ _ (.sl xs a cap sz vals h1 h2 h3 h4 h5 h6)
    | rp row off blk base vals h1 h2 h3 h4=>exact .imm _ _ (.rp row off blk base vals h1 h2 h3 h4)
    | con v h=>exact .imm _ _ (.con v h)
    | undef v=>exact .imm _ _ (.undef v)
    | anyb p b h=>exact .imm _ _ (.anyb p b h)
  | agg cs vs hl _ ih =>
    simp only [renAV,Zfy]
    refine .agg _ vs (by simpa using hl) (fun j x v hx hv=>?_)
    rw [List.getElem?_map] at hx
    cases hj:cs[j]? with
    | none=>rw [hj] at hx;cases hx
    | some y=>rw [hj] at hx;simp only [Option.map_some,Option.some.injEq] at hx;subst hx;exact ih j y v hj hv
  | tup cs vs hl _ ih =>
    simp only [renAV,Zfy]
    refine .tup _ vs (by simpa using hl) (fun j x v hx hv=>?_)
    rw [List.getElem?_map] at hx
    cases hj:cs[j]? with
    | none=>rw [hj] at hx;cases hx
    | some y=>rw [hj] at hx;simp only [Option.map_some,Option.some.injEq] at hx;subst hx;exact ih j y v hj hv
  | fn f cs vs hl _ ih =>
    simp only [renAV,Zfy]
    refine .fn f _ vs (by simpa using hl) (fun j x v hx hv=>?_)
    rw [List.getElem?_map] at hx
    cases hj:cs[j]? with
    | none=>rw [hj] at hx;cases hx
    | some y=>rw [hj] at hx;simp only [Option.map_some,Option.some.injEq] at hx;subst hx;exact ih j y v hj hv
  | ptr o r c l h=>exact .ptr (σ o) r c l (hσ o _ h)
  | osl o off len room cap a l h h1 h2 h3 h4 h5 ha=>exact .osl (σ o) off len room cap a l (hσ o _ h) h1 h2 h3 h4 h5 ha
  | oslv o a h=>exact .oslv (σ o) a (hσ o _ h)
  | osw o z cap a l h h2 h3 h4 hz ha=>exact .osw (σ o) z cap a l (hσ o _ h) h2 h3 h4 hz ha
  | oswv o z a h=>exact .oswv (σ o) z a (hσ o _ h)
  | mapo o l h=>exact .mapo (σ o) l (hσ o _ h)
theorem RepL.ren {S : Nat → Prop} {w : World} {ι ι' : Imap} {σ : Nat → Nat} (hσ : ∀ o y, ι o = some y → ι' (σ o) = some y) {cs : List AV} {vs : List Value} (h : RepL S w ι cs vs) :
    RepL S w ι' (renL σ cs) vs:=by
  rw [Zfy]
  refine ⟨by simpa using h.1,fun j x v hx hv=>?_⟩
  rw [List.getElem?_map] at hx
  cases hj:cs[j]? with
  | none=>rw [hj] at hx;cases hx
  | some y=>rw [hj] at hx;simp only [Option.map_some,Option.some.injEq] at hx;subst hx;exact (h.2 j y v hj hv).ren hσ
theorem ObjOk.ren {S : Nat → Prop} {w : World} {ι ι' : Imap} {σ : Nat → Nat} (hσ : ∀ o y, ι o = some y → ι' (σ o) = some y) {o : Nat} {x : AO} (h : ObjOk S w ι o x) :
    ObjOk S w ι' (σ o) (renO σ x):=by
  cases x with
  | rows p rs =>
    cases p with
    | true =>
      rcases h with ⟨h,rfl⟩ | ⟨l,vals,h1,h2,h3,h4,h5⟩
      · exact .inl ⟨hσ _ _ h,rfl⟩
      · refine .inr ⟨l,vals,hσ _ _ h1,h2,h3,h4,fun i r hr=>?_⟩
        have:=h5 i r hr
        simpa using this
    | false =>
      rcases h with ⟨h,rfl⟩ | ⟨l,vals,h1,h2,h3,h4,h5⟩
      · exact .inl ⟨hσ _ _ h,rfl⟩
      · refine .inr ⟨l,vals,hσ _ _ h1,by simpa using h2,h3,by simpa using h4,fun i r hr=>?_⟩
        rw [List.getElem?_map] at hr
        cases hj:rs[i]? with
        | none=>rw [hj] at hr;cases hr
        | some y =>
          rw [hj] at hr;simp only [Option.map_some,Option.some.injEq] at hr;subst hr
          have:=h5 i y hj
          simp only [Bool.false_eq_true,if_false] at this ⊢
          exact this.ren hσ
  | froz rs =>
    rcases h with ⟨h,rfl⟩ | ⟨l,vals,h1,h2,h3,h4,h5⟩
    · exact .inl ⟨hσ _ _ h,rfl⟩
    · exact .inr ⟨l,vals,hσ _ _ h1,h2,h3,h4,fun i r hr=>by have:=h5 i r hr;simpa using this⟩
  | mapo p es =>
    obtain ⟨l,xs,clock,h1,h2,h3,h4⟩:=h
    cases p with
    | true =>
      exact ⟨l,xs,clock,hσ _ _ h1,h2,⟨h3.1,fun i e x he hx=>⟨(h3.2 i e x he hx).1,.imm _ _ ((h3.2 i e x he hx).2.2 rfl),(h3.2 i e x he hx).2.2⟩⟩,h4⟩
    | false =>
    refine ⟨l,xs,clock,hσ _ _ h1,h2,⟨by simpa using h3.1,fun i e x he hx=>?_⟩,h4⟩
    rw [List.getElem?_map] at he
    cases hj:es[i]? with
    | none=>rw [hj] at he;cases he
    | some y =>
      rw [hj] at he;simp only [Option.map_some,Option.some.injEq] at he;subst he
      exact ⟨(h3.2 i y x hj hx).1,(h3.2 i y x hj hx).2.1.ren hσ,fun hp=>by cases hp⟩
  | lit rs =>
    obtain ⟨l,vals,h1,h2,h4,h5,h6,h7,h8⟩:=h
    exact ⟨l,vals,hσ _ _ h1,h2,h4,h5,h6,h7,fun i r hr=>by have:=h8 i r hr;simpa using this⟩
theorem Zb7 (σ:Nat→Nat) (x:AO):(renO σ x).live=x.live:=by
  cases x with
  | rows p rs=>cases p<;>rfl
  | froz rs=>rfl
  | mapo p es=>cases p<;>rfl
  | lit rs=>rfl
theorem Zd5 {w:World} {σ:Nat→Nat} {x:AO} {l:Loc} {b:Nat} (h:foot w (renO σ x) l b):foot w x l b:=by
  cases x with
  | rows p rs=>cases p<;>exact h
  | froz rs=>exact h
  | mapo p es=>cases p<;>exact h
  | lit rs=>exact h
theorem Zhd {w:World} {σ:Nat→Nat} {x:AO} {l:Loc} {b:Nat} (h:foot w x l b):foot w (renO σ x) l b:=by
  cases x with
  | rows p rs=>cases p<;>exact h
  | froz rs=>exact h
  | mapo p es=>cases p<;>exact h
  | lit rs=>exact h
theorem Zf1 {w:World} {σ:Nat→Nat} {x y:AO} {l:Loc} {b:Nat} (h:WkO y (renO σ x)) (hb:foot w x l b):foot w y l b:=by
  rcases h with h | ⟨p,rs,rs',rfl,h,_⟩ | ⟨rs,rs',rfl,h,_⟩
  · rw [← h];exact Zhd hb
  · have:=Zhd (σ:=σ) hb
    rw [h] at this;exact .inl (Zb0 rfl this)
  · have:=Zhd (σ:=σ) hb
    rw [h] at this;exact .inl (Zb0 rfl this)
def ιback (ι:Imap) (σ:Nat→Nat) (n:Nat):Imap:=fun o=>if o<n then ι (σ o) else none
mutual
theorem Rep.unren {S:Nat→Prop} {w:World} {ι:Imap} {σ:Nat→Nat} {n:Nat}:∀ (v:AV) (x:Value),idsB n v=true→Rep S w ι (renAV σ v) x→Rep S w (ιback ι σ n) v x
  | .ptr o r c,x,hb,h=>by
    obtain ⟨l,hl,rfl⟩:=h.ptr_inv
    exact .ptr o r c l (by simp only [ιback];rw [if_pos (of_decide_eq_true hb)];exact hl)
  | .osl o off len room,x,hb,h=>by
    have hι:∀ y,ι (σ o)=some y→ιback ι σ n o=some y:=fun y hy=>by simp only [ιback];rw [if_pos (of_decide_eq_true hb)];exact hy
    rcases Zg9 h with ⟨l,a,cap,q,rfl,h1,h2,h3,h4,h5,ha⟩ | ⟨q,rfl,rfl,rfl,a,rfl⟩
    · exact .osl o off len room cap a l (hι _ q) h1 h2 h3 h4 h5 ha
    · exact .oslv o a (hι _ q)
  | .osw o z,x,hb,h=>by
    have hι:∀ y,ι (σ o)=some y→ιback ι σ n o=some y:=fun y hy=>by simp only [ιback];rw [if_pos (of_decide_eq_true hb)];exact hy
    rcases Zdf h with ⟨l,a,cap,q,rfl,h2,h3,h4,hz,ha⟩ | ⟨q,a,rfl⟩
    · exact .osw o z cap a l (hι _ q) h2 h3 h4 hz ha
    · exact .oswv o z a (hι _ q)
  | .mapo o,x,hb,h=>by
    obtain ⟨l,hl,rfl⟩:=h.mapo_inv
    exact .mapo o l (by simp only [ιback];rw [if_pos (of_decide_eq_true hb)];exact hl)
  | .agg cs,x,hb,h=>by
    obtain ⟨vs,rfl,hL⟩:=h.agg_inv
    exact RepL.agg (RepL.unren cs vs.toList hb hL)
  | .tup cs,x,hb,h=>by
    obtain ⟨vs,rfl,hL⟩:=h.tup_inv
    exact RepL.tupr (RepL.unren cs vs.toList hb hL)
  | .fn f cs,x,hb,h=>by
    obtain ⟨vs,rfl,hL⟩:=h.fn_inv
    exact RepL.fnr (RepL.unren cs vs.toList hb hL)
  | .int k m,x,_,h=>.imm _ _ (h.free rfl)
  | .bool b,x,_,h=>.imm _ _ (h.free rfl)
  | .str s,x,_,h=>.imm _ _ (h.free rfl)
  | .esl,x,_,h=>.imm _ _ (h.free rfl)
  | .sl xs,x,_,h=>.imm _ _ (h.free rfl)
  | .rp row c,x,_,h=>.imm _ _ (h.free rfl)
  | .con v,x,_,h=>.imm _ _ (h.free rfl)
  | .undef,x,_,h=>.imm _ _ (.undef _)
  | .anyb p,x,_,h=>by
    cases h with
    | imm _ _ h=>cases h with | anyb _ b h=>exact .imm _ _ (.anyb p b h)
theorem RepL.unren {S:Nat→Prop} {w:World} {ι:Imap} {σ:Nat→Nat} {n:Nat}:∀ (cs:List AV) (vs:List Value),idsBL n cs=true→RepL S w ι (renL σ cs) vs→RepL S w (ιback ι σ n) cs vs
  | [],vs,_,h=>by
    have:=h.1
    simp only [renL,List.length_nil] at this
    cases vs with
    | nil=>exact .nil
    | cons v r=>simp at this
  | c::cs,vs,hb,h=>by
    simp only [idsBL,Bool.and_eq_true] at hb
    simp only [renL] at h
    cases vs with
    | nil=>have:=h.1;simp at this
    | cons v r =>
      have h1:Rep S w ι (renAV σ c) v:=h.2 0 _ _ rfl rfl
      have h2:RepL S w ι (renL σ cs) r:=⟨by simpa using h.1,fun j x v hx hv=>h.2 (j+1) x v (by simpa using hx) (by simpa using hv)⟩
      exact RepL.cons (Rep.unren c v hb.1 h1) (RepL.unren cs r hb.2 h2)
end
theorem ObjOk.unren {S : Nat → Prop} {w : World} {ι : Imap} {σ : Nat → Nat} {n o : Nat} {x : AO} (ho : o < n) (hb : idsBO n x = true) (h : ObjOk S w ι (σ o) (renO σ x)) :
    ObjOk S w (ιback ι σ n) o x:=by
  have hι:∀ y,ι (σ o)=some y→ιback ι σ n o=some y:=fun y hy=>by simp only [ιback];rw [if_pos ho];exact hy
  cases x with
  | rows p rs =>
    cases p with
    | true =>
      rcases h with ⟨q,rfl⟩ | ⟨l,vals,h1,h2,h3,h4,h5⟩
      · exact .inl ⟨hι _ q,rfl⟩
      · exact .inr ⟨l,vals,hι _ h1,h2,h3,h4,fun i r hr=>by have:=h5 i r hr;simpa using this⟩
    | false =>
      simp only [renO] at h
      rcases h with ⟨q,hrs⟩ | ⟨l,vals,h1,h2,h3,h4,h5⟩
      · exact .inl ⟨hι _ q,by simpa using hrs⟩
      · refine .inr ⟨l,vals,hι _ h1,by simpa using h2,h3,by simpa using h4,fun i r hr=>?_⟩
        have hmap:(rs.map (renL σ))[i]? = some (renL σ r):=by rw [List.getElem?_map,hr];rfl
        have:=h5 i _ hmap
        simp only [Bool.false_eq_true,if_false] at this ⊢
        refine RepL.unren r _ ?_ this
        simp only [idsBO] at hb
        exact List.all_eq_true.1 hb r (List.mem_of_getElem? hr)
  | froz rs =>
    rcases h with ⟨q,rfl⟩ | ⟨l,vals,h1,h2,h3,h4,h5⟩
    · exact .inl ⟨hι _ q,rfl⟩
    · exact .inr ⟨l,vals,hι _ h1,h2,h3,h4,fun i r hr=>by have:=h5 i r hr;simpa using this⟩
  | mapo p es =>
    cases p with
    | true =>
      obtain ⟨l,xs,clock,h1,h2,h3,h4⟩:=h
      exact ⟨l,xs,clock,hι _ h1,h2,⟨h3.1,fun i e x he hx=>⟨(h3.2 i e x he hx).1,.imm _ _ ((h3.2 i e x he hx).2.2 rfl),(h3.2 i e x he hx).2.2⟩⟩,h4⟩
    | false =>
    obtain ⟨l,xs,clock,h1,h2,h3,h4⟩:=h
    refine ⟨l,xs,clock,hι _ h1,h2,⟨by simpa using h3.1,fun i e x he hx=>?_⟩,h4⟩
    have hmap:(es.map fun e=>(e.1,renAV σ e.2))[i]? = some (e.1,renAV σ e.2):=by rw [List.getElem?_map,he];rfl
    have:=h3.2 i _ x hmap hx
    simp only [idsBO] at hb
    exact ⟨this.1,Rep.unren e.2 x.val (List.all_eq_true.1 hb e (List.mem_of_getElem? he)) this.2.1,fun hp=>by cases hp⟩
  | lit rs =>
    obtain ⟨l,vals,h1,h2,h4,h5,h6,h7,h8⟩:=h
    exact ⟨l,vals,hι _ h1,h2,h4,h5,h6,h7,fun i r hr=>by have:=h8 i r hr;simpa using this⟩
theorem Zqv {σ : Nat → Nat} : ∀ (os' : List (Nat × AO)) (base : Nat → Option AO) (T : List (Nat × Option AO)),
    (∀ e e',e∈os'→e'∈os'→σ e.1=σ e'.1→e.1=e'.1) →
    (∀ j x,lk os' j=some x→updO base (os'.map (fun e=>(σ e.1,some (renO σ e.2)))++T) (σ j)=some (renO σ x)) ∧
    (∀ o,(∀ e,e∈os'→σ e.1≠o)→updO base (os'.map (fun e=>(σ e.1,some (renO σ e.2)))++T) o=updO base T o):=by
  intro os'
  induction os' with
  | nil=>intro base T _;exact ⟨fun j x h=>by simp [lk] at h,fun o _=>rfl⟩
  | cons e r ih =>
    intro base T hinj
    obtain ⟨h1,h2⟩:=ih base T (fun a b ha hb=>hinj a b (List.mem_cons_of_mem _ ha) (List.mem_cons_of_mem _ hb))
    constructor
    · intro j x h
      simp only [lk] at h
      simp only [List.map_cons,List.cons_append,updO]
      by_cases hj:j=e.1
      · subst hj
        rw [if_pos rfl] at h ⊢
        injection h with h;subst h;rfl
      · rw [if_neg hj] at h
        have hm:∃ x',(j,x')∈r:=by
          clear h1 h2 ih hinj
          induction r with
          | nil=>simp [lk] at h
          | cons q r ih =>
            simp only [lk] at h
            by_cases hq:j=q.1
            · exact ⟨q.2,by rw [hq];exact List.mem_cons_self⟩
            · rw [if_neg hq] at h
              obtain ⟨x',hx'⟩:=ih h
              exact ⟨x',List.mem_cons_of_mem _ hx'⟩
        obtain ⟨x',hx'⟩:=hm
        have:σ j≠σ e.1:=fun q=>hj (hinj (j,x') e (List.mem_cons_of_mem _ hx') List.mem_cons_self q)
        rw [if_neg this]
        exact h1 j x h
    · intro o ho
      simp only [List.map_cons,List.cons_append,updO]
      rw [if_neg (fun q=>ho e List.mem_cons_self q.symm)]
      exact h2 o (fun a ha=>ho a (List.mem_cons_of_mem _ ha))
theorem Zj6:∀ {os:List (Nat×AO)} {e:Nat×AO},e∈os→∃ x,lk os e.1=some x:=by
  intro os
  induction os with
  | nil=>intro e h;cases h
  | cons q r ih =>
    intro e h
    by_cases hq:e.1=q.1
    · exact ⟨q.2,by simp [lk,hq]⟩
    · rcases List.mem_cons.1 h with rfl | h
      · exact absurd rfl hq
      · obtain ⟨x,hx⟩:=ih h
        exact ⟨x,by simp [lk,hq,hx]⟩
theorem ZmW (base:Nat→Option AO):∀ (V:List Nat) (o:Nat),updO base (V.map fun o=>(o,none)) o=if o∈V then none else base o:=by
  intro V
  induction V with
  | nil=>intro o;simp [updO]
  | cons k r ih =>
    intro o
    simp only [List.map_cons,updO,ih,List.mem_cons]
    by_cases h:o=k
    · simp [h]
    · simp [h]
section
variable {C:Cx} {S:Nat→Prop} {w:World} {ι:Imap} {P:Program} {un:Nat→Prop} {f:FS} {a:Act} {id:Nat} {o:Oper}
  {next:Act→World→Prop} {Q:Exit→Act→World→Prop}
theorem Zjv {fn : Operand} {args : Array Operand} {ts : Array TypeId} (hop : o.op = .call { callee := .value fn, args := args, argTypes := ts }) {fid : Nat} {vs : Array Value}
    (hfn:a.eval fn = .func (.func fid) #[] vs) (hc:callB P fid=true):(execOp a.eval o).run P w = .ok (.enter fid (args.map a.eval++vs)) w:=by
  unfold execOp;rw [hop]
  simp only [resolve,hfn,Deferred.ofValue,Sem.run_bind,Sem.run_pure,Result.andThen_ok,invoke,Zky hc,Array.empty_append]
theorem Fr.then {Ow:Nat→Prop} {w0 w w':World} (h:Fr Ow w0 w) (h':Fr (OwOf w (fun _=>none) []) w w'):Fr Ow w0 w':=by
  have hold:∀ b,b<w.heap.size→w'.heap[b]? = w.heap[b]? := fun b hb=>h'.old b hb (by
    rintro (q | ⟨o,x,l,q,_⟩)
    · omega
    · simp [lk] at q)
  exact ⟨h'.os.trans h.os,h'.output.trans h.output,Nat.le_trans h.size h'.size,fun b hb hn=>by
    rw [hold b (by have:=h.size;omega)];exact h.old b hb hn⟩
theorem ZpN {op : Op} {v : AV} {U : List (Nat × Option AO)} {RO : List Nat} (hop : o.op = op) (h : Inv C S ι un f a w)
    (hst:AStep P C.G (evA C.G f.g) f.os id op v U RO) (hid:∀ x,id≤x→x<id+W→un x) (hd:∀ d,o.dst=some d→C.N.lo≤d∧d<C.N.n) (hn:Goes C un id o f v U next) :
    o.wp P a w next Q:=by
  by_cases hcall:∀ c,op = .call c→∃ b,c.callee = .builtin b
  · exact ZoB hop h hst hcall hid hd hn
  cases hst with
  | call fn args ts fid cap _ n argsC _ hev hv hf hfl =>
    have hx:=h.ev fn
    rw [hev] at hx
    obtain ⟨vs,hvf,hL⟩:=hx.fn_inv
    rw [Zij (ZhO hf.1)] at hvf
    have hargs:RepL S w ι (args.toList.map (evA C.G f.g)++cap) (args.map a.eval++vs).toList:=by
      rw [Array.toList_append,Array.toList_map]
      exact (RepL.map h.ev _).append hL
    have hcl:=Zkw (V:=RO) h.ob hargs hv
    have hSV:=SV_lt h RO
    unfold Oper.wp
    rw [Zjv hop hvf hf.1,Oper.upon_enter]
    have hcalls:=hf.2.2 (SV S ι f.os RO) (fun _=>none) w (args.map a.eval++vs) hSV (fun g row hg=>(h.gv g row hg).mono (fun b hb=>.inl hb) (fun _ _=>rfl))
      ⟨fun o x hx=>by simp [lk] at hx,fun o x hx=>by simp [lk] at hx,fun o o' x x' hx=>by simp [lk] at hx⟩ (fun _ _=>rfl) hcl.rep
    refine hcalls.mono ?_
    rintro e w' ⟨v',S',ι',rfl,hfr,hS1,hS2,hle,hιW,hrep,hob'⟩
    have hold:∀ b,b<w.heap.size→w'.heap[b]? = w.heap[b]? := fun b hb=>hfr.old b hb (by
      rintro (q | ⟨o,x,l,q,_⟩)
      · omega
      · simp [lk] at q)
    have hw:ZbV S w w':=fun b hb=>hold b (h.sb b hb)
    have hinv:Inv C S ι un {f with os:=updO f.os []} a w':=by
      refine h.turn (fun _ x=>x) hw (Imap.le_refl _) (fun o' x hx=>(h.ob o' x hx).mono (fun _ x=>x) hw (Imap.le_refl _) (fun l hl hlv b hb=>hold _ (h.own o' x hx hlv l hl b hb).2.2))
        (fun o' x hx hlv l hl b hb=>?_) (fun o o' x x' hx hx' h1 h2 l l' e1 e2 b b1 b2=>h.inj o o' x x' hx hx' h1 h2 l l' e1 e2 b (ZaT (hold _ (h.own o x hx h1 l e1 _ (.inl rfl)).2.2) b1) (ZaT (hold _ (h.own o' x' hx' h2 l' e2 _ (.inl rfl)).2.2) b2)) (fun b hb=>?_) h.sn h.un (h.fr.then hfr)
      · have:=h.own o' x hx hlv l hl b (ZaT (hold _ (h.own o' x hx hlv l hl _ (.inl rfl)).2.2) hb)
        exact ⟨this.1,this.2.1,by have:=hfr.size;omega⟩
      · have:=h.sb b hb;have:=hfr.size;omega
    exact Inv.goes hn hinv (fun x hx=>hx.1) (.imm _ _ (hrep.flat hfl)) hd
  | callF fn args ts fid cap _ n argsC rv os' U hev hv hf hU =>
    have hx:=h.ev fn
    rw [hev] at hx
    obtain ⟨vs,hvf,hL⟩:=hx.fn_inv
    rw [Zij (ZhO hf.1)] at hvf
    have hargs:RepL S w ι (args.toList.map (evA C.G f.g)++cap) (args.map a.eval++vs).toList:=by
      rw [Array.toList_append,Array.toList_map]
      exact (RepL.map h.ev _).append hL
    have hcl:=Zkw (V:=RO) h.ob hargs hv
    have hSV:=SV_lt h RO
    unfold Oper.wp
    rw [Zjv hop hvf hf.1,Oper.upon_enter]
    have hcalls:=hf.2.2 (SV S ι f.os RO) (fun _=>none) w (args.map a.eval++vs) hSV (fun g row hg=>(h.gv g row hg).mono (fun b hb=>.inl hb) (fun _ _=>rfl))
      ⟨fun o x hx=>by simp [lk] at hx,fun o x hx=>by simp [lk] at hx,fun o o' x x' hx=>by simp [lk] at hx⟩ (fun _ _=>rfl) hcl.rep
    refine hcalls.mono ?_
    rintro e w' ⟨v',S',ι',rfl,hfr,hS1',hS2,hle,hιW,hrep,hob'⟩
    have hS1:∀ b,S' b→(SV S ι f.os RO b∨w.heap.size≤b)∧b<w'.heap.size:=fun b hb=>⟨(hS1' b hb).1.imp (fun q=>q) (by
      rintro (q | ⟨o,x,l,q,_⟩)
      · exact q
      · simp [lk] at q),(hS1' b hb).2⟩
    have hold:∀ b,b<w.heap.size→w'.heap[b]? = w.heap[b]? := fun b hb=>hfr.old b hb (by
      rintro (q | ⟨o,x,l,q,_⟩)
      · omega
      · simp [lk] at q)
    have hSS:∀ b,S b→S' b:=fun b hb=>hS2 b (.inl hb)
    have hw:ZbV S w w':=fun b hb=>hold b (h.sb b hb)
    have hwV:ZbV (SV S ι f.os RO) w w':=fun b hb=>hold b (hSV b hb)
    -- the places behind the call
    have hlt':=hf.2.1
    let ι2:Imap:=fun x=>if id≤x∧x<id+W then ι' (x - id) else ι x
    have hι2:ι.le ι2:=by
      intro x y hxy
      by_cases hc:id≤x∧x<id+W
      · rw [h.un x (hid x hc.1 hc.2)] at hxy;cases hxy
      · simp only [ι2,hc,if_false];exact hxy
    have hσ:∀ x y,ι' x=some y→ι2 (id+x)=some y:=by
      intro x y hxy
      have hx:x<W:=by
        rcases Nat.lt_or_ge x W with q | q
        · exact q
        · rw [hιW x q] at hxy;cases hxy
      simp only [ι2]
      rw [if_pos ⟨by omega,by omega⟩]
      rw [show id+x - id=x by omega];exact hxy
    have hnew:∀ o,id≤o→∀ x,lk os' (o - id)=some x→ObjOk S' w' ι2 o (renO (id + ·) x):=by
      intro o ho x hx
      have:=(hob'.ob _ x hx).ren (σ:=(id + ·)) hσ
      rw [show id+(o - id)=o by omega] at this;exact this
    have hblk:∀ o,id≤o→∀ x,lk os' (o - id)=some x→x.live=true→∀ l,ι2 o=some (some l)→∀ b,foot w' x l b→w.heap.size≤b∧¬ S' b∧b<w'.heap.size∧ι' (o - id)=some (some l):=by
      intro o ho x hx hlv l hl b hb
      have hlt:=hlt' _ _ hx
      simp only [ι2] at hl
      rw [if_pos ⟨ho,by omega⟩] at hl
      have:=hob'.own _ x hx hlv l hl b hb
      refine ⟨?_,this.2.1,this.2.2,hl⟩
      rcases this.1 with q | ⟨o,x,l,q,_⟩
      · exact q
      · simp [lk] at q
    have hfree:∀ o x,f.os o=some x→¬ (id≤o∧o<id+W):=by
      intro o x hx hc
      have hnone:=h.un o (hid o hc.1 hc.2)
      have:=h.ob o x hx
      cases x with
      | rows p rs=>rcases this with ⟨q,_⟩ | ⟨l,vals,q,_⟩<;>(rw [hnone] at q;cases q)
      | froz rs=>rcases this with ⟨q,_⟩ | ⟨l,vals,q,_⟩<;>(rw [hnone] at q;cases q)
      | mapo p es=>obtain ⟨l,xs,c,q,_⟩:=this;rw [hnone] at q;cases q
      | lit rs=>obtain ⟨l,vals,q,_⟩:=this;rw [hnone] at q;cases q
    have hold2:∀ o x,f.os o=some x→∀ l,ι2 o=some (some l)→ι o=some (some l):=by
      intro o x hx l hl
      simp only [ι2] at hl
      rw [if_neg (hfree o x hx)] at hl;exact hl
    -- what stands at a number behind the call
    have hcase : ∀ o x, updO f.os (U ++ Zhu id os') o = some x →
        (o∈RO∧∃ y rs,f.os o=some y∧Zfg (Za8 RO f.os n) y=some rs∧x = .froz rs) ∨
        (o ∉ RO∧id≤o∧∃ x',lk os' (o - id)=some x'∧x=renO (id + ·) x')∨(o ∉ RO∧f.os o=some x):=by
      intro o x hx
      rw [ZkI] at hx
      rcases Zkk hU (updO f.os (Zhu id os')) o with ⟨h1,y,rs,h2,h3,h4⟩ | ⟨h1,h2⟩
      · rw [h4] at hx;injection hx with hx
        exact .inl ⟨h1,y,rs,h2,h3,hx.symm⟩
      · rw [h2,Zop] at hx
        split at hx
        · rename_i hc
          obtain ⟨x',hx'⟩:=Option.isSome_iff_exists.1 hc.2
          rw [hx'] at hx
          simp only [Option.map_some,Option.some.injEq] at hx
          exact .inr (.inl ⟨h1,hc.1,x',hx',hx.symm⟩)
        · exact .inr (.inr ⟨h1,hx⟩)
    have hinv:Inv C S' ι2 (fun x=>un x∧¬ (id≤x∧x<id+W)) {f with os:=updO f.os (U++Zhu id os')} a w':=by
      refine h.turn hSS hw hι2 ?_ ?_ ?_ (fun b hb=>(hS1 b hb).2) (fun b hb=>?_) (fun o ho=>?_) (h.fr.then hfr)
      · intro o x hx
        rcases hcase o x hx with ⟨h1,y,rs,h2,h3,rfl⟩ | ⟨h1,h2,x',h3,rfl⟩ | ⟨h1,h2⟩
        · rcases ZfR (Zel h.ob n) (h.ob o y h2) h3 with ⟨q,rfl⟩ | ⟨l,vals,q,hcnt,hat,hrp⟩
          · exact .inl ⟨hι2 _ _ q,rfl⟩
          · have hb:SV S ι f.os RO l.blk:=.inr ⟨o,y,l,h1,h2,q,rfl⟩
            refine .inr ⟨l,vals,hι2 _ _ q,hcnt,hS2 _ hb,⟨hat.1,hat.2.1,fun i j v hi hv=>?_⟩,fun i r hr=>?_⟩
            · rw [Zcn (hwV _ hb)];exact hat.2.2 i j v hi hv
            · simp only [if_true];exact (hrp i r hr).mono hS2 hwV
        · exact hnew o h2 x' h3
        · exact (h.ob o x h2).mono hSS hw hι2 (fun l hl hlv b hb=>hold _ (h.own o x h2 hlv l hl b hb).2.2)
      · intro o x hx hlv l hl b hb
        rcases hcase o x hx with ⟨h1,y,rs,h2,h3,rfl⟩ | ⟨h1,h2,x',h3,rfl⟩ | ⟨h1,h2⟩
        · cases hlv
        · rw [Zb7] at hlv
          have:=hblk o h2 x' h3 hlv l hl b (Zd5 hb)
          exact ⟨h.fo _ (Nat.le_trans h.fr.size this.1),this.2.1,this.2.2.1⟩
        · have hl':=hold2 o x h2 l hl
          have hb:=ZaT (hold _ (h.own o x h2 hlv l hl' _ (.inl rfl)).2.2) hb
          have:=h.own o x h2 hlv l hl' b hb
          refine ⟨this.1,fun hs=>?_,by have:=hfr.size;omega⟩
          rcases (hS1 _ hs).1 with (q | ⟨o2,x2,l2,q1,q2,q3,q4⟩) | q
          · exact this.2.1 q
          · by_cases hlv2:x2.live=true
            · have:=h.inj o o2 x x2 h2 q2 hlv hlv2 l l2 hl' q3 b hb (.inl q4)
              subst this;exact h1 q1
            · have hob2:=h.ob o2 x2 q2
              cases x2 with
              | froz rs =>
                rcases hob2 with ⟨q,_⟩ | ⟨l',vals,q,_,hS,_⟩
                · rw [q] at q3;cases q3
                · rw [q] at q3;injection q3 with q3;injection q3 with q3;subst q3
                  rw [← q4] at hS;exact this.2.1 hS
              | rows p rs=>exact absurd rfl hlv2
              | mapo p es=>exact absurd rfl hlv2
              | lit rs=>exact absurd rfl hlv2
          · omega
      · intro o1 o2 x1 x2 hx1 hx2 hlv1 hlv2 l1 l2 e1 e2 b hb hb2
        rcases hcase o1 x1 hx1 with ⟨h1,y,rs,h2,h3,rfl⟩ | ⟨h1,h2,x1',h3,rfl⟩ | ⟨h1,h2⟩
        · cases hlv1
        · rw [Zb7] at hlv1
          have b1:=hblk o1 h2 x1' h3 hlv1 l1 e1 b (Zd5 hb)
          rcases hcase o2 x2 hx2 with ⟨g1,y,rs,g2,g3,rfl⟩ | ⟨g1,g2,x2',g3,rfl⟩ | ⟨g1,g2⟩
          · cases hlv2
          · rw [Zb7] at hlv2
            have b2:=hblk o2 g2 x2' g3 hlv2 l2 e2 b (Zd5 hb2)
            have:=hob'.inj _ _ x1' x2' h3 g3 hlv1 hlv2 l1 l2 b1.2.2.2 b2.2.2.2 b (Zd5 hb) (Zd5 hb2)
            omega
          · have:=h.own o2 x2 g2 hlv2 l2 (hold2 o2 x2 g2 l2 e2) b (ZaT (hold _ (h.own o2 x2 g2 hlv2 l2 (hold2 o2 x2 g2 l2 e2) _ (.inl rfl)).2.2) hb2)
            omega
        · have hb:=ZaT (hold _ (h.own o1 x1 h2 hlv1 l1 (hold2 o1 x1 h2 l1 e1) _ (.inl rfl)).2.2) hb
          have b1:=h.own o1 x1 h2 hlv1 l1 (hold2 o1 x1 h2 l1 e1) b hb
          rcases hcase o2 x2 hx2 with ⟨g1,y,rs,g2,g3,rfl⟩ | ⟨g1,g2,x2',g3,rfl⟩ | ⟨g1,g2⟩
          · cases hlv2
          · rw [Zb7] at hlv2
            have b2:=hblk o2 g2 x2' g3 hlv2 l2 e2 b (Zd5 hb2)
            omega
          · exact h.inj o1 o2 x1 x2 h2 g2 hlv1 hlv2 l1 l2 (hold2 o1 x1 h2 l1 e1) (hold2 o2 x2 g2 l2 e2) b hb (ZaT (hold _ (h.own o2 x2 g2 hlv2 l2 (hold2 o2 x2 g2 l2 e2) _ (.inl rfl)).2.2) hb2)
      · rcases (hS1 b hb).1 with (q | ⟨o2,x2,l2,q1,q2,q3,q4⟩) | q
        · exact h.sn b q
        · subst q4
          by_cases hlv2:x2.live=true
          · right;exact (h.own o2 x2 q2 hlv2 l2 q3 _ (.inl rfl)).1
          · have hob2:=h.ob o2 x2 q2
            cases x2 with
            | froz rs =>
              rcases hob2 with ⟨q,_⟩ | ⟨l',vals,q,_,hS,_⟩
              · rw [q] at q3;cases q3
              · rw [q] at q3;injection q3 with q3;injection q3 with q3;subst q3
                exact h.sn _ hS
            | rows p rs=>exact absurd rfl hlv2
            | mapo p es=>exact absurd rfl hlv2
            | lit rs=>exact absurd rfl hlv2
        · right;exact h.fo _ (Nat.le_trans h.fr.size q)
      · simp only [ι2]
        rw [if_neg ho.2];exact h.un o ho.1
    exact Inv.goes hn hinv (fun x hx=>hx) (hrep.ren hσ) hd
  | callG fn args ts fid cap _ oin argsC rv os' hev hh hf =>
    have hx:=h.ev fn
    rw [hev] at hx
    obtain ⟨vs,hvf,hL⟩:=hx.fn_inv
    rw [Zij (ZhO hf.1)] at hvf
    have hargs:RepL S w ι (args.toList.map (evA C.G f.g)++cap) (args.map a.eval++vs).toList:=by
      rw [Array.toList_append,Array.toList_map]
      exact (RepL.map h.ev _).append hL
    obtain ⟨hok,hkeys,hobjs,hargs2⟩:=hh
    generalize RO=V at hok hkeys hobjs hargs2 hn
    simp only [Bool.and_eq_true,decide_eq_true_eq] at hok
    obtain ⟨⟨hnd,hb1⟩,hb2⟩:=hok
    have hlen:oin.length=V.length:=by
      have:=congrArg List.length hkeys
      simpa using this
    let σ:=bk V id
    let ι0:=ιback ι σ V.length
    have hbkV:∀ j (hj:j<V.length),σ j=V[j]:=fun j hj=>by simp [σ,bk,hj]
    -- what is handed in
    have hin:∀ j x,lk oin j=some x→∃ (hj:j<V.length),(∃ y,f.os V[j]=some y∧WkO y (renO σ x))∧idsBO V.length x=true:=by
      intro j x hjx
      have hm:(j,x)∈oin:=by
        clear hkeys hobjs hlen hf hb2
        induction oin with
        | nil=>simp [lk] at hjx
        | cons e r ih =>
          simp only [lk] at hjx
          by_cases hje:j=e.1
          · rw [if_pos hje] at hjx;injection hjx with hjx;subst hjx;subst hje;exact List.mem_cons_self
          · rw [if_neg hje] at hjx;exact List.mem_cons_of_mem _ (ih hjx)
      obtain ⟨i,hi,hie⟩:=List.getElem_of_mem hm
      have hki:(oin.map (·.1))[i]? = some j:=by rw [List.getElem?_map,List.getElem?_eq_getElem hi,hie];rfl
      rw [hkeys,List.getElem?_range (by omega)] at hki
      injection hki with hki
      subst hki
      have hj:i<V.length:=by omega
      refine ⟨hj,?_,List.all_eq_true.1 hb2 _ hm⟩
      have ho:(oin.map fun e=>some (renO σ e.2))[i]? = some (some (renO σ x)):=by rw [List.getElem?_map,List.getElem?_eq_getElem hi,hie];rfl
      have hv:(V.map f.os)[i]? = some (f.os V[i]):=by rw [List.getElem?_map,List.getElem?_eq_getElem hj];rfl
      obtain ⟨y,h1,h2⟩:=hobjs.get i _ _ hv ho
      exact ⟨y,h1,h2⟩
    have hfree:∀ o x,f.os o=some x→¬ (id≤o∧o<id+W)∧∃ L,ι o=some L:=by
      intro o x hx
      have hob:=h.ob o x hx
      have hL:∃ L,ι o=some L:=by
        cases x with
        | rows p rs=>rcases hob with ⟨q,_⟩ | ⟨l,vals,q,_⟩<;>exact ⟨_,q⟩
        | froz rs=>rcases hob with ⟨q,_⟩ | ⟨l,vals,q,_⟩<;>exact ⟨_,q⟩
        | mapo p es=>obtain ⟨l,xs,c,q,_⟩:=hob;exact ⟨_,q⟩
        | lit rs=>obtain ⟨l,vals,q,_⟩:=hob;exact ⟨_,q⟩
      refine ⟨fun hc=>?_,hL⟩
      obtain ⟨L,hL⟩:=hL
      rw [h.un o (hid o hc.1 hc.2)] at hL;cases hL
    have hVos:∀ j (hj:j<V.length),∃ x,f.os V[j]=some x:=by
      intro j hj
      have ho:(V.map f.os)[j]? = some (f.os V[j]):=by rw [List.getElem?_map,List.getElem?_eq_getElem hj];rfl
      have hv:(oin.map fun e=>some (renO σ e.2))[j]? = some (some (renO σ (oin[j]'(by omega)).2)):=by rw [List.getElem?_map,List.getElem?_eq_getElem (by omega)];rfl
      obtain ⟨y,h1,h2⟩:=hobjs.get j _ _ ho hv
      exact ⟨y,h1⟩
    have hι0:∀ j (hj:j<V.length),ι0 j=ι V[j]:=fun j hj=>by simp only [ι0,ιback];rw [if_pos hj,hbkV j hj]
    have hι0n:∀ j,V.length≤j→ι0 j=none:=fun j hj=>by simp only [ι0,ιback];rw [if_neg (by omega)]
    have hVidx:∀ j j' (hj:j<V.length) (hj':j'<V.length),V[j]=V[j']→j=j':=fun j j' hj hj' e=>by
      rcases Nat.lt_trichotomy j j' with q | q | q
      · exact absurd e (List.pairwise_iff_getElem.1 hnd j j' hj hj' q)
      · exact q
      · exact absurd e.symm (List.pairwise_iff_getElem.1 hnd j' j hj' hj q)
    have hob0:Zf7 (OwOf w ι0 oin) S w ι0 (lk oin):=by
      refine ⟨fun j x hjx=>?_,fun j x hjx hlv l hl b hbb=>?_,fun j j' x x' hjx hjx' hlv hlv' l l' hl hl' b hbl hbl2=>?_⟩
      · obtain ⟨hj,⟨y,ho,hwk⟩,hb⟩:=hin j x hjx
        refine ObjOk.unren hj hb ?_
        rw [hbkV j hj]
        exact hwk.ok (h.ob _ _ ho)
      · obtain ⟨hj,⟨y,ho,hwk⟩,hb⟩:=hin j x hjx
        have hl2:=hl
        rw [hι0 j hj] at hl2
        have:=h.own _ _ ho (by rw [← hwk.live,Zb7];exact hlv) l hl2 b (Zf1 hwk hbb)
        exact ⟨.inr ⟨j,x,l,hjx,hlv,hl,hbb⟩,this.2⟩
      · obtain ⟨hj,⟨y,ho,hwk⟩,hb⟩:=hin j x hjx
        obtain ⟨hj',⟨y',ho',hwk'⟩,hb'⟩:=hin j' x' hjx'
        rw [hι0 j hj] at hl
        rw [hι0 j' hj'] at hl'
        exact hVidx j j' hj hj' (h.inj _ _ _ _ ho ho' (by rw [← hwk.live,Zb7];exact hlv) (by rw [← hwk'.live,Zb7];exact hlv') l l' hl hl' b (Zf1 hwk hbl) (Zf1 hwk' hbl2))
    have hargs0:RepL S w ι0 argsC (args.map a.eval++vs).toList:=RepL.unren argsC _ hb1 (hargs2.repL hargs)
    unfold Oper.wp
    rw [Zjv hop hvf hf.1,Oper.upon_enter]
    have hcalls:=hf.2.2 S ι0 w (args.map a.eval++vs) h.sb h.gv hob0 (fun o ho=>hι0n o (by omega)) hargs0
    refine hcalls.mono ?_
    rintro e w' ⟨v',S',ι',rfl,hfr,hS1,hS2,hle,hιW,hrep,hob'⟩
    -- blocks that the callee may have written
    have hOw:∀ b,OwOf w ι0 oin b→b<w.heap.size→∃ o x l,o∈V∧f.os o=some x∧x.live=true∧ι o=some (some l)∧foot w x l b:=by
      rintro b (hb | ⟨j,x,l,hjx,hlv,hl,hlb⟩) hlt
      · omega
      · obtain ⟨hj,⟨y,ho,hwk⟩,hb⟩:=hin j x hjx
        rw [hι0 j hj] at hl
        exact ⟨V[j],_,l,List.getElem_mem hj,ho,by rw [← hwk.live,Zb7];exact hlv,hl,Zf1 hwk hlb⟩
    have hCOw:∀ b,OwOf w ι0 oin b→C.Ow b:=by
      rintro b (hb | ⟨j,x,l,hjx,hlv,hl,hlb⟩)
      · exact h.fo _ (Nat.le_trans h.fr.size hb)
      · obtain ⟨hj,⟨y,ho,hwk⟩,hb⟩:=hin j x hjx
        rw [hι0 j hj] at hl
        exact (h.own _ _ ho (by rw [← hwk.live,Zb7];exact hlv) l hl b (Zf1 hwk hlb)).1
    have hSn:∀ b,S b→¬ OwOf w ι0 oin b:=by
      intro b hb hO
      obtain ⟨o,x,l,_,hx,hlv,hl,hlb⟩:=hOw b hO (h.sb b hb)
      exact (h.own o x hx hlv l hl b hlb).2.1 hb
    have hw:ZbV S w w':=fun b hb=>hfr.old b (h.sb b hb) (hSn b hb)
    have holdn:∀ o x,f.os o=some x→x.live=true→o ∉ V→∀ l,ι o=some (some l)→∀ b,foot w x l b→¬ OwOf w ι0 oin b:=by
      intro o x hx hlv hoV l hl b hbb hO
      obtain ⟨o2,x2,l2,hV2,hx2,hlv2,hl2,hb2⟩:=hOw _ hO (h.own o x hx hlv l hl b hbb).2.2
      have:=h.inj o o2 x x2 hx hx2 hlv hlv2 l l2 hl hl2 b hbb hb2
      subst this
      exact hoV hV2
    have hlt':=hf.2.1
    let ι2:Imap:=fun x=>if id≤x∧x<id+W then ι' (x - id) else ι x
    have hι2:ι.le ι2:=by
      intro x y hxy
      by_cases hc:id≤x∧x<id+W
      · rw [h.un x (hid x hc.1 hc.2)] at hxy;cases hxy
      · simp only [ι2,hc,if_false];exact hxy
    have hι2V:∀ j (hj:j<V.length),ι2 V[j]=ι' j:=by
      intro j hj
      obtain ⟨x,hx⟩:=hVos j hj
      obtain ⟨hn1,L,hL⟩:=hfree _ _ hx
      simp only [ι2]
      rw [if_neg hn1,hL]
      refine (hle j L ?_).symm
      rw [hι0 j hj];exact hL
    have hσ:∀ x y,ι' x=some y→ι2 (σ x)=some y:=by
      intro x y hxy
      by_cases hx:x<V.length
      · rw [hbkV x hx,hι2V x hx];exact hxy
      · have hxW:x<W:=by
          rcases Nat.lt_or_ge x W with q | q
          · exact q
          · rw [hιW x q] at hxy;cases hxy
        have e:σ x=id+x:=by simp [σ,bk,hx]
        rw [e]
        simp only [ι2]
        rw [if_pos ⟨by omega,by omega⟩,show id+x - id=x by omega];exact hxy
    have hVout:∀ j (hj:j<V.length) k,k<W→V[j]≠id+k:=by
      intro j hj k hk e
      obtain ⟨x,hx⟩:=hVos j hj
      exact (hfree _ _ hx).1 ⟨by omega,by omega⟩
    have hσinj:∀ j j',j<W→j'<W→σ j=σ j'→j=j':=by
      intro j j' hj hj' e
      by_cases h1:j<V.length<;>by_cases h2:j'<V.length
      · rw [hbkV j h1,hbkV j' h2] at e;exact hVidx j j' h1 h2 e
      · have e2:σ j'=id+j':=by simp [σ,bk,h2]
        rw [hbkV j h1,e2] at e;exact absurd e (hVout j h1 j' hj')
      · have e1:σ j=id+j:=by simp [σ,bk,h1]
        rw [hbkV j' h2,e1] at e;exact absurd e.symm (hVout j' h2 j hj)
      · have e1:σ j=id+j:=by simp [σ,bk,h1]
        have e2:σ j'=id+j':=by simp [σ,bk,h2]
        omega
    have hkW:∀ q,q∈os'→q.1<W:=fun q hq=>by obtain ⟨x,hx⟩:=Zj6 hq;exact hlt' _ _ hx
    obtain ⟨hbk1,hbk2⟩:=Zqv (σ:=σ) os' f.os (V.map fun o=>(o,none)) (fun p q hp hq e=>hσinj _ _ (hkW p hp) (hkW q hq) e)
    have hcase:∀ o x,updO f.os (backU V id os') o=some x→(∃ j x',j<W∧o=σ j∧lk os' j=some x'∧x=renO σ x')∨(o ∉ V∧f.os o=some x):=by
      intro o x hx
      by_cases hq:∃ q,q∈os'∧σ q.1=o
      · obtain ⟨q,hq1,hq2⟩:=hq
        obtain ⟨x',hx'⟩:=Zj6 hq1
        have:=hbk1 q.1 x' hx'
        rw [hq2] at this
        rw [show updO f.os (backU V id os') o=_ from this] at hx
        injection hx with hx
        exact .inl ⟨q.1,x',hkW q hq1,hq2.symm,hx',hx.symm⟩
      · have:=hbk2 o (fun q hq1 hq2=>hq ⟨q,hq1,hq2⟩)
        rw [show updO f.os (backU V id os') o=_ from this,ZmW] at hx
        split at hx
        · cases hx
        · rename_i hn;exact .inr ⟨hn,hx⟩
    -- the places of what comes back
    have hplace:∀ j x',lk os' j=some x'→x'.live=true→∀ l,ι2 (σ j)=some (some l)→ι' j=some (some l):=by
      intro j x' hj hlv l hl
      by_cases hjV:j<V.length
      · rw [hbkV j hjV,hι2V j hjV] at hl;exact hl
      · have e:σ j=id+j:=by simp [σ,bk,hjV]
        have:=hlt' _ _ hj
        rw [e] at hl
        simp only [ι2] at hl
        rw [if_pos ⟨by omega,by omega⟩,show id+j - id=j by omega] at hl
        exact hl
    have hold2:∀ o x,f.os o=some x→∀ l,ι2 o=some (some l)→ι o=some (some l):=by
      intro o x hx l hl
      simp only [ι2] at hl
      rw [if_neg (hfree o x hx).1] at hl;exact hl
    have hinv:Inv C S' ι2 (fun x=>un x∧¬ (id≤x∧x<id+W)) {f with os:=updO f.os (backU V id os')} a w':=by
      refine h.turn hS2 hw hι2 ?_ ?_ ?_ (fun b hb=>(hS1 b hb).2) (fun b hb=>?_) (fun o ho=>?_) ?_
      · intro o x hx
        rcases hcase o x hx with ⟨j,x',hj,rfl,hjx,rfl⟩ | ⟨hoV,hx⟩
        · exact (hob'.ob j x' hjx).ren hσ
        · exact (h.ob o x hx).mono hS2 hw hι2 (fun l hl hlv b hb=>hfr.old _ (h.own o x hx hlv l hl b hb).2.2 (holdn o x hx hlv hoV l hl b hb))
      · intro o x hx hlv l hl b hb
        rcases hcase o x hx with ⟨j,x',hj,rfl,hjx,rfl⟩ | ⟨hoV,hx⟩
        · rw [Zb7] at hlv
          have:=hob'.own j x' hjx hlv l (hplace j x' hjx hlv l hl) b (Zd5 hb)
          exact ⟨hCOw _ this.1,this.2⟩
        · have hl':=hold2 o x hx l hl
          have hb:=ZaT (hfr.old _ (h.own o x hx hlv l hl' _ (.inl rfl)).2.2 (holdn o x hx hlv hoV l hl' _ (.inl rfl))) hb
          have:=h.own o x hx hlv l hl' b hb
          refine ⟨this.1,fun hs=>?_,by have:=hfr.size;omega⟩
          rcases (hS1 _ hs).1 with q | q
          · exact this.2.1 q
          · exact holdn o x hx hlv hoV l hl' b hb q
      · intro o1 o2 x1 x2 hx1 hx2 hlv1 hlv2 l1 l2 e1 e2 b hb hb2
        rcases hcase o1 x1 hx1 with ⟨j1,y1,hj1,rfl,hjx1,rfl⟩ | ⟨hoV1,hx1⟩
        · rw [Zb7] at hlv1
          have p1:=hplace j1 y1 hjx1 hlv1 l1 e1
          rcases hcase o2 x2 hx2 with ⟨j2,y2,hj2,rfl,hjx2,rfl⟩ | ⟨hoV2,hx2⟩
          · rw [Zb7] at hlv2
            have p2:=hplace j2 y2 hjx2 hlv2 l2 e2
            rw [hob'.inj j1 j2 y1 y2 hjx1 hjx2 hlv1 hlv2 l1 l2 p1 p2 b (Zd5 hb) (Zd5 hb2)]
          · have hl2:=hold2 o2 x2 hx2 l2 e2
            have:=(hob'.own j1 y1 hjx1 hlv1 l1 p1 b (Zd5 hb)).1
            have hb2:=ZaT (hfr.old _ (h.own o2 x2 hx2 hlv2 l2 hl2 _ (.inl rfl)).2.2 (holdn o2 x2 hx2 hlv2 hoV2 l2 hl2 _ (.inl rfl))) hb2
            exact absurd this (holdn o2 x2 hx2 hlv2 hoV2 l2 hl2 b hb2)
        · have hl1:=hold2 o1 x1 hx1 l1 e1
          rcases hcase o2 x2 hx2 with ⟨j2,y2,hj2,rfl,hjx2,rfl⟩ | ⟨hoV2,hx2⟩
          · rw [Zb7] at hlv2
            have p2:=hplace j2 y2 hjx2 hlv2 l2 e2
            have:=(hob'.own j2 y2 hjx2 hlv2 l2 p2 b (Zd5 hb2)).1
            have hb:=ZaT (hfr.old _ (h.own o1 x1 hx1 hlv1 l1 hl1 _ (.inl rfl)).2.2 (holdn o1 x1 hx1 hlv1 hoV1 l1 hl1 _ (.inl rfl))) hb
            exact absurd this (holdn o1 x1 hx1 hlv1 hoV1 l1 hl1 b hb)
          · have hl2:=hold2 o2 x2 hx2 l2 e2
            have hb:=ZaT (hfr.old _ (h.own o1 x1 hx1 hlv1 l1 hl1 _ (.inl rfl)).2.2 (holdn o1 x1 hx1 hlv1 hoV1 l1 hl1 _ (.inl rfl))) hb
            have hb2:=ZaT (hfr.old _ (h.own o2 x2 hx2 hlv2 l2 hl2 _ (.inl rfl)).2.2 (holdn o2 x2 hx2 hlv2 hoV2 l2 hl2 _ (.inl rfl))) hb2
            exact h.inj o1 o2 x1 x2 hx1 hx2 hlv1 hlv2 l1 l2 hl1 hl2 b hb hb2
      · rcases (hS1 b hb).1 with q | q
        · exact h.sn b q
        · exact .inr (hCOw _ q)
      · simp only [ι2]
        rw [if_neg ho.2];exact h.un o ho.1
      · exact ⟨hfr.os.trans h.fr.os,hfr.output.trans h.fr.output,Nat.le_trans h.fr.size hfr.size,fun b hb hn=>by
          rw [hfr.old b (by have:=h.fr.size;omega) (fun q=>hn (hCOw _ q))];exact h.fr.old b hb hn⟩
    exact Inv.goes hn hinv (fun x hx=>hx) (hrep.ren hσ) hd
  | pure op v hp =>
    refine absurd (fun c e=>?_) hcall
    subst e
    by_cases hb:∃ b,c.callee=Callee.builtin b
    · exact hb
    · exfalso
      unfold pval at hp
      split at hp
      all_goals first
        | (rename_i e;injection e;done)
        | (rename_i e;injection e with e;subst e;exact hb ⟨_,rfl⟩)
        | (rename_i e _;injection e with e;subst e;exact hb ⟨_,rfl⟩)
        | cases hp
  | lenOsw=>exact absurd (fun c e=>by cases e;exact ⟨_,rfl⟩) hcall
  | files _ _ _ _ hb =>
    refine absurd (fun c e=>?_) hcall
    cases hb with
    | _=>cases e
  | more _ _ _ _ hb =>
    refine absurd (fun c e=>?_) hcall
    cases hb with
    | appE=>cases e;exact ⟨_,rfl⟩
    | appW=>cases e;exact ⟨_,rfl⟩
    | mapUpd _ t kt m k x hop=>subst e;rcases hop with e | e<;>cases e
    | _=>cases e
  | _=>exact absurd (fun c e=>by cases e) hcall
end
end Go.Ab
