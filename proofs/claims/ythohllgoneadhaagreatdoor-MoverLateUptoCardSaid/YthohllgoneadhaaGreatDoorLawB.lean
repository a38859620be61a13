import Derived.Test.YthohllgoneadhaaGreatDoorLawA
set_option linter.unusedVariables false
set_option linter.unusedSimpArgs false
namespace Go.T
open Go Go.Ab
def plc (l:List api_Span) (k:Int):Int:=match l.findIdx? (fun s=>s.Shard==k) with | some i=>(i:Int) | none=>-1
theorem plc_spec (l:List api_Span) (k:Int):(∃ (j:Nat) (h:j<l.length),l[j].Shard=k∧(∀ i (hi:i<j),l[i].Shard≠k)∧plc l k=j)∨((∀ i (h:i<l.length),l[i].Shard≠k)∧plc l k = -1):=by
  unfold plc
  cases h:l.findIdx? (fun s=>s.Shard==k) with
  | none =>
    right
    rw [List.findIdx?_eq_none_iff] at h
    exact ⟨fun i hi=>by have:=h _ (List.getElem_mem hi);simpa using this,rfl⟩
  | some j =>
    left
    rw [List.findIdx?_eq_some_iff_getElem] at h
    obtain ⟨hj,h1,h2⟩:=h
    exact ⟨j,hj,by simpa using h1,fun i hi=>by have:=h2 i hi;simpa using this,rfl⟩
theorem plc_unique {l:List api_Span} {k:Int} {j:Nat} (h:j<l.length) (h1:l[j].Shard=k) (h2:∀ i (hi:i<j),l[i].Shard≠k):plc l k=j:=by
  rcases plc_spec l k with ⟨j',h',a,b,c⟩ | ⟨a,b⟩
  · rcases Nat.lt_trichotomy j j' with q | q | q
    · exact absurd h1 (b j q)
    · rw [c,q]
    · exact absurd a (h2 j' q)
  · exact absurd h1 (a j h)
theorem plc_none {l:List api_Span} {k:Int} (h:∀ i (h:i<l.length),l[i].Shard≠k):plc l k = -1:=by
  rcases plc_spec l k with ⟨j',h',a,b,c⟩ | ⟨a,b⟩
  · exact absurd a (h j' h')
  · exact b
def at_sh (l:List api_Span) (k:Int) (i:Nat):Bool:=match l[i]? with | some s=>s.Shard==k | none=>false
theorem at_sh_lt {l:List api_Span} {k:Int} {i:Nat} (h:i<l.length):at_sh l k i=(l[i].Shard==k):=by simp [at_sh,h]
theorem atlas_place_ok {F:Nat} {a:api_Atlas} {k:Int} (hs:a.Spans.length≤1048576) (hF:1048577≤F):atlas_place F a k=some (plc a.Spans k):=by
  have hl:=findLoop (fun n i=>slices_IndexFunc___api_Span_api_Span__l0 F a.Spans k n i) a.Spans.length (at_sh a.Spans k)
    (fun n i hi=>by
      simp only [slices_IndexFunc___api_Span_api_Span__l0,atlas_place_1]
      have e1:(decide ((i:Int)<((List.length a.Spans:Nat):Int)))=true:=by simp [hi]
      have e2:decide ((0:Int)≤(i:Int))=true:=by simp
      simp only [e1,e2,cond_true,Int.toNat_natCast,List.getElem?_eq_getElem hi,Option.bind_some]
      rw [wrap_id (by omega) (by omega)]
      rw [at_sh_lt hi])
    (fun n i hi=>by
      simp only [slices_IndexFunc___api_Span_api_Span__l0]
      have e1:(decide ((i:Int)<((List.length a.Spans:Nat):Int)))=false:=by simp;omega
      simp only [e1,cond_false]) F 0 (by omega)
  unfold atlas_place slices_IndexFunc___api_Span_api_Span_
  simp only [Int.natCast_zero] at hl
  rcases hl with ⟨j,_,h2,h3,h4,h5⟩ | ⟨h3,h5⟩
  · rw [h5,plc_unique h2 (by rw [at_sh_lt h2] at h3;simpa using h3) (fun i hi e=>by have:=h4 i (Nat.zero_le _) hi;rw [at_sh_lt (by omega)] at this;simp [e] at this)];rfl
  · rw [h5,plc_none (fun i hi e=>by have:=h3 i (Nat.zero_le _) hi;rw [at_sh_lt hi] at this;simp [e] at this)];rfl
def up (s:api_Span):Bool:=nm s.To && !(Op.bytesLess s.To s.From || s.To==s.From)
def upAt (l:List api_Span) (i:Nat):Bool:=match l[i]?,l[i+1]? with | some s,some t=>up s && t.From==s.To | _,_=>true
theorem covers_ok {F : Nat} {l : List api_Span} (hs : l.length ≤ 1048576) (hstr : ∀ s, s ∈ l → s.To.length ≤ 1048576) (hF : 1048577 ≤ F) :
    ∃ b,atlas_covers F l=some b∧(b=true↔(1≤l.length∧l.length≤16∧(∀ h:0<l.length,l[0].From=[])∧(∀ h:0<l.length,(l[l.length - 1]'(by omega)).To=[]) ∧
      ∀ i,i<l.length - 1→upAt l i=true)):=by
  unfold atlas_covers
  by_cases h1:l.length=0
  · have e1:decide (((l.length:Nat):Int)<1)=true:=decide_eq_true (by omega)
    simp only [e1,cond_true,Option.bind_some]
    exact ⟨false,rfl,by simp;omega⟩
  have e1:decide (((l.length:Nat):Int)<1)=false:=decide_eq_false (by omega)
  by_cases h2:16<l.length
  · have e2:decide ((16:Int)<((l.length:Nat):Int))=true:=decide_eq_true (by omega)
    simp only [e1,e2,cond_true,cond_false,Option.bind_some]
    exact ⟨false,rfl,by simp;omega⟩
  have e2:decide ((16:Int)<((l.length:Nat):Int))=false:=decide_eq_false (by omega)
  have hw:IntKind.wrap IntKind.i64 ((l.length:Int) - 1)=((l.length - 1:Nat):Int):=by rw [wrap_id (by omega) (by omega)];omega
  have g0:l[Int.toNat 0]? = some (l[0]'(by omega)):=List.getElem?_eq_getElem (by omega)
  have gl:l[l.length - 1]? = some (l[l.length - 1]'(by omega)):=List.getElem?_eq_getElem (by omega)
  have e3:decide ((0:Int)≤((l.length - 1:Nat):Int))=true:=decide_eq_true (by omega)
  have e4:decide (0≤l.length - 1)=true:=decide_eq_true (by omega)
  have e5:decide (l.length - 1≤l.length)=true:=decide_eq_true (by omega)
  simp only [e1,e2,cond_false,g0,Option.bind_some,List.length_map,hw,e3,e4,e5,cond_true,Int.toNat_natCast,gl]
  cases h3:(l[0]'(by omega)).From==[] with
  | false =>
    simp only [Bool.not_false,cond_true,Option.bind_some]
    refine ⟨false,rfl,?_⟩
    have:(l[0]'(by omega)).From≠[]:=by simpa using h3
    simp only [Bool.false_eq_true,false_iff]
    exact fun H=>this (H.2.2.1 (by omega))
  | true =>
    simp only [Bool.not_true,cond_false,Option.bind_some]
    have h3':(l[0]'(by omega)).From=[]:=by simpa using h3
    cases h4:(l[l.length - 1]'(by omega)).To==[] with
    | false =>
      simp only [Bool.not_false,cond_true]
      refine ⟨false,rfl,?_⟩
      have:(l[l.length - 1]'(by omega)).To≠[]:=by simpa using h4
      simp only [Bool.false_eq_true,false_iff]
      exact fun H=>this (H.2.2.2.1 (by omega))
    | true =>
      have h4':(l[l.length - 1]'(by omega)).To=[]:=by simpa using h4
      simp only [Bool.not_true,cond_false]
      have hl:=allLoop (fun n i=>atlas_covers_l0 F l n i) (l.length - 1) (upAt l) false
        (fun n i hi=>by
          simp only [atlas_covers_l0,cut,List.length_take,List.length_map,hw,Int.toNat_natCast]
          have f1:decide ((i:Int)<((min (l.length - 1) l.length:Nat):Int))=true:=decide_eq_true (by omega)
          have f2:decide ((0:Int)≤(i:Int))=true:=decide_eq_true (by omega)
          have f3:(List.take (l.length - 1) l)[i]? = some (l[i]'(by omega)):=by rw [List.getElem?_take];simp [hi,show i<l.length by omega]
          have f4:IntKind.wrap IntKind.i64 ((i:Int)+1)=((i+1:Nat):Int):=by rw [wrap_id (by omega) (by omega)];omega
          have f5:decide ((0:Int)≤((i+1:Nat):Int))=true:=decide_eq_true (by omega)
          have f6:l[i+1]? = some (l[i+1]'(by omega)):=List.getElem?_eq_getElem (by omega)
          have f7:l[i]? = some (l[i]'(by omega)):=List.getElem?_eq_getElem (by omega)
          have f8:upAt l i=(up (l[i]'(by omega)) && (l[i+1]'(by omega)).From==(l[i]'(by omega)).To):=by simp only [upAt,f6,f7]
          simp only [f1,f2,f3,f4,f5,f6,f8,cond_true,Option.bind_some,Int.toNat_natCast,jobs_Named_ok (hstr _ (List.getElem_mem _)) hF,up]
          cases nm (l[i]'(by omega)).To<;>cases (Op.bytesLess (l[i]'(by omega)).To (l[i]'(by omega)).From || (l[i]'(by omega)).To==(l[i]'(by omega)).From) <;>
            cases ((l[i+1]'(by omega)).From==(l[i]'(by omega)).To)<;>simp)
        (fun n i hi=>by
          simp only [atlas_covers_l0,cut,List.length_take,List.length_map,hw,Int.toNat_natCast]
          have f1:decide ((i:Int)<((min (l.length - 1) l.length:Nat):Int))=false:=decide_eq_false (by omega)
          simp only [f1,cond_false]) F 0 (by omega)
      simp only [Int.natCast_zero] at hl
      rcases hl with ⟨ha,hl⟩ | ⟨⟨j,_,hj,ha⟩,hl⟩
      · rw [hl]
        refine ⟨true,rfl,?_⟩
        simp only [true_iff]
        exact ⟨by omega,by omega,fun _=>h3',fun _=>h4',fun i hi=>ha i (Nat.zero_le _) hi⟩
      · rw [hl]
        refine ⟨false,rfl,?_⟩
        simp only [Bool.false_eq_true,false_iff]
        intro H
        rw [H.2.2.2.2 j hj] at ha;cases ha
def own (a:api_Atlas) (i:Nat):Bool:=match a.Spans[i]? with
  | some s=>!decide (s.Shard<1) && !decide (a.Last<s.Shard) && (plc a.Spans s.Shard==(i:Int)) && !decide (s.Epoch<1) && !decide (1099511627776<s.Epoch) && !decide (s.Group<1) && !decide (a.Groups<s.Group)
  | none=>true
def SpansOk (a:api_Atlas):Prop :=
  ¬ a.Groups<1∧¬ 8<a.Groups∧¬ 1099511627776<a.Last∧(1≤a.Spans.length∧a.Spans.length≤16∧(∀ h:0<a.Spans.length,a.Spans[0].From=[]) ∧
    (∀ h:0<a.Spans.length,(a.Spans[a.Spans.length - 1]'(by omega)).To=[])∧∀ i,i<a.Spans.length - 1→upAt a.Spans i=true)∧∀ i,i<a.Spans.length→own a i=true
theorem check_ok {F : Nat} {a : api_Atlas} (hs : a.Spans.length ≤ 1048576) (hstr : ∀ s, s ∈ a.Spans → s.To.length ≤ 1048576) (hF : 1048577 ≤ F) :
    (SpansOk a∧atlas_Check F a=atlas_planned F a)∨(¬ SpansOk a∧atlas_Check F a=some false):=by
  unfold atlas_Check
  by_cases h1:a.Groups<1
  · right
    refine ⟨fun H=>H.1 h1,?_⟩
    simp [h1]
  by_cases h2:8<a.Groups
  · right
    refine ⟨fun H=>H.2.1 h2,?_⟩
    simp [h1,h2]
  by_cases h3:1099511627776<a.Last
  · right
    refine ⟨fun H=>H.2.2.1 h3,?_⟩
    simp [h1,h2,h3]
  obtain ⟨b,hc,hb⟩:=covers_ok (F:=F) hs hstr hF
  have e1:decide (a.Groups<1)=false:=decide_eq_false h1
  have e2:decide ((8:Int)<a.Groups)=false:=decide_eq_false h2
  have e3:decide ((1099511627776:Int)<a.Last)=false:=decide_eq_false h3
  simp only [e1,e2,e3,cond_false,hc,Option.bind_some]
  cases b with
  | false =>
    right
    refine ⟨fun H=>?_,rfl⟩
    have:=hb.2 H.2.2.2.1;cases this
  | true =>
    simp only [Bool.not_true,cond_false]
    have hl:=allLoop (fun n i=>atlas_Check_l0 F a n i) a.Spans.length (own a) false
      (fun n i hi=>by
        simp only [atlas_Check_l0]
        have f1:decide ((i:Int)<((a.Spans.length:Nat):Int))=true:=decide_eq_true (by omega)
        have f2:decide ((0:Int)≤(i:Int))=true:=decide_eq_true (by omega)
        have f4:IntKind.wrap IntKind.i64 ((i:Int)+1)=(i:Int)+1:=by rw [wrap_id (by omega) (by omega)]
        simp only [f1,f2,f4,own,List.getElem?_eq_getElem hi,cond_true,Option.bind_some,Int.toNat_natCast,atlas_place_ok hs hF,bne]
        generalize decide (a.Spans[i].Shard<1)=b1
        generalize decide (a.Last<a.Spans[i].Shard)=b2
        generalize (plc a.Spans a.Spans[i].Shard==(i:Int))=b3
        generalize decide (a.Spans[i].Epoch<1)=b4
        generalize decide (1099511627776<a.Spans[i].Epoch)=b5
        generalize decide (a.Spans[i].Group<1)=b6
        generalize decide (a.Groups<a.Spans[i].Group)=b7
        cases b1<;>cases b2<;>cases b3<;>cases b4<;>cases b5<;>cases b6<;>cases b7<;>rfl)
      (fun n i hi=>by
        simp only [atlas_Check_l0]
        have f1:decide ((i:Int)<((a.Spans.length:Nat):Int))=false:=decide_eq_false (by omega)
        simp only [f1,cond_false]) F 0 (by omega)
    simp only [Int.natCast_zero] at hl
    rcases hl with ⟨hg,hl⟩ | ⟨⟨j,_,hj,hg⟩,hl⟩
    · left
      rw [hl]
      refine ⟨⟨h1,h2,h3,hb.1 rfl,fun i hi=>hg i (Nat.zero_le _) hi⟩,?_⟩
      simp only [Option.bind_some,Sum.elim_inr]
      cases atlas_planned F a<;>rfl
    · right
      rw [hl]
      refine ⟨fun H=>?_,rfl⟩
      rw [H.2.2.2.2 j hj] at hg;cases hg
end Go.T
set_option linter.unusedVariables false
set_option linter.unusedSimpArgs false
namespace Go.T
open Go Go.Ab
def noP:api_Plan:=⟨0,0,0,0,0,0,0,[]⟩
theorem span_facts {a : api_Atlas} (h : SpansOk a) (i : Nat) (hi : i < a.Spans.length) :
    1≤(a.Spans[i]).Shard∧(a.Spans[i]).Shard≤a.Last∧plc a.Spans (a.Spans[i]).Shard=i∧1≤(a.Spans[i]).Epoch∧(a.Spans[i]).Epoch≤1099511627776∧1≤(a.Spans[i]).Group∧(a.Spans[i]).Group≤a.Groups:=by
  have:=h.2.2.2.2 i hi
  unfold own at this
  rw [List.getElem?_eq_getElem hi] at this
  simp only [Bool.and_eq_true,Bool.not_eq_true',decide_eq_false_iff_not,beq_iff_eq] at this
  obtain ⟨⟨⟨⟨⟨⟨h1,h2⟩,h3⟩,h4⟩,h5⟩,h6⟩,h7⟩:=this
  exact ⟨by omega,by omega,h3,by omega,by omega,by omega,by omega⟩
theorem span_uniq {a:api_Atlas} (h:SpansOk a) {i j:Nat} (hi:i<a.Spans.length) (hj:j<a.Spans.length) (e:(a.Spans[i]).Shard=(a.Spans[j]).Shard):i=j:=by
  have h1:=(span_facts h i hi).2.2.1
  have h2:=(span_facts h j hj).2.2.1
  rw [e,h2] at h1
  omega
theorem span_up {a:api_Atlas} (h:SpansOk a) (i:Nat) (hi:i+1<a.Spans.length):nm (a.Spans[i]).To=true∧Op.bytesLess (a.Spans[i]).From (a.Spans[i]).To=true∧(a.Spans[i+1]).From=(a.Spans[i]).To:=by
  have:=h.2.2.2.1.2.2.2.2 i (by omega)
  unfold upAt up at this
  rw [List.getElem?_eq_getElem hi,List.getElem?_eq_getElem (show i<a.Spans.length by omega)] at this
  simp only [Bool.and_eq_true,beq_iff_eq,Bool.not_eq_true',Bool.or_eq_false_iff,beq_eq_false_iff_ne] at this
  obtain ⟨⟨h1,h2,h3⟩,h4⟩:=this
  refine ⟨h1,?_,h4⟩
  rcases bl_tri (a.Spans[i]).From (a.Spans[i]).To with q | q | q
  · exact q
  · exact absurd q.symm h3
  · rw [h2] at q;cases q
theorem span_first {a:api_Atlas} (h:SpansOk a) (h0:0<a.Spans.length):(a.Spans[0]).From=[]:=h.2.2.2.1.2.2.1 h0
theorem span_last {a:api_Atlas} (h:SpansOk a) (i:Nat) (hi:i+1=a.Spans.length):(a.Spans[i]).To=[]:=by
  have:=h.2.2.2.1.2.2.2.1 (by omega)
  have e:i=a.Spans.length - 1:=by omega
  subst e;exact this
theorem nm_key {s:List UInt8} (h:nm s=true):keyB s=true:=by unfold keyB;rw [h,Bool.or_true]
theorem nm_ne {s:List UInt8} (h:nm s=true):s≠[]:=by rintro rfl;simp [nm] at h
theorem span_rng {a:api_Atlas} (h:SpansOk a) (i:Nat) (hi:i<a.Spans.length):rngB (a.Spans[i]).From (a.Spans[i]).To=true:=by
  have hf:keyB (a.Spans[i]).From=true:=by
    cases i with
    | zero=>rw [span_first h hi];rfl
    | succ i=>rw [(span_up h i hi).2.2];exact nm_key (span_up h i hi).1
  by_cases hl:i+1<a.Spans.length
  · obtain ⟨h1,h2,_⟩:=span_up h i hl
    unfold rngB
    rw [hf,nm_key h1,bl_asym _ _ h2]
    have:((a.Spans[i]).To==(a.Spans[i]).From)=false:=by
      rw [beq_eq_false_iff_ne]
      intro e;rw [e,bl_irr] at h2;cases h2
    rw [this];simp
  · have:=span_last h i (by omega)
    unfold rngB
    rw [hf,this];rfl
theorem span_lens {a:api_Atlas} (h:SpansOk a):a.Spans.length≤16∧∀ s,s∈a.Spans→s.From.length≤16∧s.To.length≤16:=by
  refine ⟨h.2.2.2.1.2.1,fun s hs=>?_⟩
  obtain ⟨i,hi,rfl⟩:=List.getElem_of_mem hs
  exact rng_len (span_rng h i hi)
theorem check_planned {a:api_Atlas} (h:SpansOk a):atlas_Check FM a=atlas_planned FM a:=by
  obtain ⟨h1,h2⟩:=span_lens h
  rcases check_ok (F:=FM) (a:=a) (by omega) (fun s hs=>by have:=(h2 s hs).2;omega) (by decide) with ⟨_,e⟩ | ⟨e,_⟩
  · exact e
  · exact absurd h e
theorem place_eq {a:api_Atlas} (h:a.Spans.length≤16) (k:Int):atlas_place FM a k=some (plc a.Spans k):=atlas_place_ok (by omega) (by decide)
theorem copied_at {a:api_Atlas} (h:a.Spans.length≤16):atlas_copied FM a=some a:=by
  unfold atlas_copied slices_Clone___api_Span_api_Span_
  rw [decide_eq_true (by simp only [LIM];omega)];rfl
theorem check_no {a:api_Atlas} (h:SpansOk a) (hp:a.Plan=noP):atlas_Check FM a=some true:=by
  rw [check_planned h]
  unfold atlas_planned
  rw [hp];rfl
def insB (s:api_Span) (key:List UInt8):Bool:=nm key && Op.bytesLess s.From key && (s.To==[] || Op.bytesLess key s.To)
theorem inside_eq (s:api_Span) (key:List UInt8) (h:key.length≤1048576):atlas_inside FM s key=some (insB s key):=by
  unfold atlas_inside insB
  rw [jobs_Named_ok h (by decide)]
  have e:(!(Op.bytesLess key s.From || key==s.From))=Op.bytesLess s.From key:=by
    rw [Bool.eq_iff_iff]
    simp only [Bool.not_eq_true',Bool.or_eq_false_iff,beq_eq_false_iff_ne]
    constructor
    · rintro ⟨h1,h2⟩
      rcases bl_tri key s.From with q | q | q
      · rw [h1] at q;cases q
      · exact absurd q h2
      · exact q
    · intro q
      exact ⟨bl_asym _ _ q,fun e=>by rw [e,bl_irr] at q;cases q⟩
  rw [e]
  cases nm key<;>cases Op.bytesLess s.From key<;>cases (s.To==[])<;>rfl
def withP (a:api_Atlas) (last:Int) (p:api_Plan):api_Atlas:=⟨a.Groups,last,a.Spans,p⟩
def moveP (s:api_Span) (g ph:Int):api_Plan:=⟨1,ph,s.Shard,0,g,s.Group,s.Epoch,[]⟩
def splitP (s:api_Span) (last:Int) (key:List UInt8):api_Plan:=⟨2,1,s.Shard,last+1,s.Group,0,s.Epoch,key⟩
def mergeP (s t:api_Span):api_Plan:=⟨3,1,s.Shard,t.Shard,s.Group,0,s.Epoch,[]⟩
theorem begin_cases (a : api_Atlas) (h : SpansOk a) (hp : a.Plan = noP) (q : api_Plan) (hq : q.Key.length ≤ 1048576) (hlast : 1 ≤ a.Last) :
    (∃ e,e≠0∧atlas_Begin FM a q=some (a,e)) ∨
    ∃ (i:Nat) (hi:i<a.Spans.length),(a.Spans[i]).Epoch≤1099511627774 ∧
      ((1≤q.Group∧q.Group≤a.Groups∧q.Group≠(a.Spans[i]).Group∧atlas_Begin FM a q=some (withP a a.Last (moveP (a.Spans[i]) q.Group 1),0)) ∨
       (insB (a.Spans[i]) q.Key=true∧a.Spans.length<16∧a.Last<1099511627776∧atlas_Begin FM a q=some (withP a (a.Last+1) (splitP (a.Spans[i]) a.Last q.Key),0)) ∨
       (∃ (h1:i+1<a.Spans.length),(a.Spans[i+1]).Group=(a.Spans[i]).Group∧(a.Spans[i+1]).Epoch≤1099511627774∧atlas_Begin FM a q=some (withP a a.Last (mergeP (a.Spans[i]) (a.Spans[i+1])),0))):=by
  have hl:=(span_lens h).1
  unfold atlas_Begin
  rw [check_no h hp,Option.bind_some,Bool.not_true,cond_false,copied_at hl,Option.bind_some,place_eq hl,Option.bind_some,hp]
  rw [show (noP.Kind != 0)=false from rfl,cond_false]
  by_cases k1:q.Kind<1
  · left
    rw [decide_eq_true k1]
    exact ⟨1,by decide,by simp⟩
  rw [decide_eq_false k1,cond_false,Option.bind_some]
  by_cases k2:3<q.Kind
  · left
    rw [decide_eq_true k2]
    exact ⟨1,by decide,by simp⟩
  rw [decide_eq_false k2,cond_false]
  rcases plc_spec a.Spans q.Shard with ⟨i,hi,_,_,hpl⟩ | ⟨_,hpl⟩
  rotate_left
  · left
    rw [hpl]
    exact ⟨172,by decide,by simp⟩
  rw [hpl,decide_eq_false (by omega),cond_false]
  obtain ⟨f1,f2,f3,f4,f5,f6,f7⟩:=span_facts h i hi
  unfold atlas_plan
  simp only [mg0,cond_true,mc,List.getElem?_eq_getElem hi,Option.bind_some,mwa i (by omega)]
  by_cases e1:1099511627774<(a.Spans[i]).Epoch
  · left
    rw [decide_eq_true e1]
    exact ⟨1,by decide,by simp⟩
  rw [decide_eq_false e1,cond_false]
  have hk:q.Kind=1∨q.Kind=2∨q.Kind=3:=by omega
  rcases hk with k | k | k
  · rw [k]
    simp only [show ((1:Int)==3)=false from rfl,show ((1:Int)==1)=true from rfl,cond_false,cond_true,Option.bind_some]
    by_cases g1:q.Group<1
    · left
      rw [decide_eq_true g1]
      exact ⟨1,by decide,by simp⟩
    rw [decide_eq_false g1,cond_false]
    by_cases g2:a.Groups<q.Group
    · left
      rw [decide_eq_true g2]
      exact ⟨1,by decide,by simp⟩
    rw [decide_eq_false g2,cond_false]
    by_cases g3:q.Group=(a.Spans[i]).Group
    · left
      rw [show (q.Group==(a.Spans[i]).Group)=true by simpa using g3]
      exact ⟨1,by decide,by simp⟩
    rw [show (q.Group==(a.Spans[i]).Group)=false by simpa using g3]
    exact .inr ⟨i,hi,by omega,.inl ⟨by omega,by omega,g3,rfl⟩⟩
  · rw [k]
    simp only [show ((2:Int)==3)=false from rfl,show ((2:Int)==1)=false from rfl,show ((2:Int)==2)=true from rfl,cond_false,cond_true,Option.bind_some,inside_eq _ _ hq]
    cases c1:insB (a.Spans[i]) q.Key with
    | false=>exact .inl ⟨170,by decide,by simp⟩
    | true =>
      simp only [Bool.not_true,cond_false]
      by_cases c2:(16:Int)≤(a.Spans.length:Int)
      · left
        rw [decide_eq_true c2]
        exact ⟨3,by decide,by simp⟩
      rw [decide_eq_false c2,cond_false]
      by_cases c3:(1099511627776:Int)≤a.Last
      · left
        rw [decide_eq_true c3]
        exact ⟨3,by decide,by simp⟩
      rw [decide_eq_false c3]
      have hw:IntKind.wrap IntKind.i64 (a.Last+1)=a.Last+1:=wrap_id (by omega) (by omega)
      refine .inr ⟨i,hi,by omega,.inr (.inl ⟨c1,by omega,by omega,?_⟩)⟩
      simp only [Option.bind_some,cond_false,hw,Sum.elim_inr]
      rfl
  · rw [k]
    simp only [show ((3:Int)==3)=true from rfl,show ((3:Int)==1)=false from rfl,show ((3:Int)==2)=false from rfl,cond_false,cond_true,Option.bind_some]
    by_cases c1:i+1<a.Spans.length
    · rw [decide_eq_true (by omega),cond_true,List.getElem?_eq_getElem c1]
      simp only [Option.bind_some]
      by_cases c2:1099511627774<(a.Spans[i+1]).Epoch
      · left
        rw [decide_eq_true c2]
        exact ⟨1,by decide,by simp⟩
      rw [decide_eq_false c2,cond_false,show (((i+1:Nat):Int)==(a.Spans.length:Int))=false by rw [beq_eq_false_iff_ne];omega,cond_false]
      by_cases c3:(a.Spans[i+1]).Group=(a.Spans[i]).Group
      · rw [show ((a.Spans[i+1]).Group != (a.Spans[i]).Group)=false by simpa using c3]
        refine .inr ⟨i,hi,by omega,.inr (.inr ⟨c1,c3,by omega,?_⟩)⟩
        simp only [Option.bind_some,cond_false,Sum.elim_inr]
        rfl
      · left
        rw [show ((a.Spans[i+1]).Group != (a.Spans[i]).Group)=true by simpa using c3]
        exact ⟨170,by decide,by simp⟩
    · left
      rw [decide_eq_false (by omega)]
      simp only [cond_false,Option.bind_some]
      rw [show (((i+1:Nat):Int)==(a.Spans.length:Int))=true by rw [beq_iff_eq];omega]
      exact ⟨170,by decide,by simp⟩
end Go.T
set_option linter.unusedVariables false
set_option linter.unusedSimpArgs false
namespace Go.T
open Go Go.Ab
theorem spans_withP {a:api_Atlas} (h:SpansOk a) (p:api_Plan) (last:Int) (h1:a.Last≤last) (h2:last≤1099511627776):SpansOk (withP a last p):=by
  obtain ⟨q1,q2,q3,q4,q5⟩:=h
  refine ⟨q1,q2,by show ¬ 1099511627776<last;omega,q4,fun i hi=>?_⟩
  replace hi:i<a.Spans.length:=hi
  have:=q5 i hi
  unfold own at this ⊢
  rw [List.getElem?_eq_getElem hi] at this
  rw [show (withP a last p).Spans=a.Spans from rfl,List.getElem?_eq_getElem hi]
  simp only [Bool.and_eq_true,Bool.not_eq_true',decide_eq_false_iff_not,beq_iff_eq] at this ⊢
  obtain ⟨⟨⟨⟨⟨⟨h1,h2⟩,h3⟩,h4⟩,h5⟩,h6⟩,h7⟩:=this
  exact ⟨⟨⟨⟨⟨⟨h1,by show ¬ last<_;omega⟩,h3⟩,h4⟩,h5⟩,h6⟩,h7⟩
theorem planned_at (a : api_Atlas) (hl : a.Spans.length ≤ 16) (hk : a.Plan.Kind ≠ 0) (i : Nat) (hi : i < a.Spans.length) (hpl : plc a.Spans a.Plan.Shard = i) (he : 1 ≤ a.Plan.Epoch) (he2 : a.Plan.Epoch ≤ 1099511627774) :
    (a.Plan.Kind=1→atlas_planned FM a=atlas_moving FM a (a.Spans[i]) a.Plan) ∧
    (a.Plan.Kind=2→a.Plan.Past=0→(a.Spans[i]).Group=a.Plan.Group→a.Plan.Phase=1→(a.Spans[i]).Epoch=a.Plan.Epoch→a.Plan.Other=a.Last→plc a.Spans a.Plan.Other = -1→insB (a.Spans[i]) a.Plan.Key=true→a.Plan.Key.length≤16→a.Spans.length<16→atlas_planned FM a=some true) ∧
    (∀ h1:i+1<a.Spans.length,a.Plan.Kind=3→a.Plan.Past=0→(a.Spans[i]).Group=a.Plan.Group→a.Plan.Phase=1→(a.Spans[i]).Epoch=a.Plan.Epoch→a.Plan.Key=[]→(a.Spans[i+1]).Shard=a.Plan.Other→(a.Spans[i+1]).Group=(a.Spans[i]).Group→(a.Spans[i+1]).Epoch≤1099511627774→atlas_planned FM a=some true):=by
  have hz:((a.Plan.Kind==(0:Int)) && ((a.Plan.Phase==(0:Int)) && ((a.Plan.Shard==(0:Int)) && ((a.Plan.Other==(0:Int)) && ((a.Plan.Group==(0:Int)) && ((a.Plan.Past==(0:Int)) && ((a.Plan.Epoch==(0:Int)) && ((a.Plan.Key==([]:List UInt8)) && true))))))))=false:=by
    have:(a.Plan.Kind==0)=false:=by simpa using hk
    rw [this];rfl
  have hst:∀ X:Option Bool,True:=fun _=>trivial
  unfold atlas_planned
  rw [hz,cond_false,place_eq hl,Option.bind_some,hpl,decide_eq_false (by omega),cond_false,decide_eq_false (by omega),cond_false,decide_eq_false (by omega),Option.bind_some,cond_false]
  simp only [mg0,cond_true,mc,List.getElem?_eq_getElem hi,Option.bind_some]
  refine ⟨fun k=>?_,fun k h1 h2 h3 h4 h5 h6 h7 h8 h9=>?_,fun hi1 k h1 h2 h3 h4 h5 h6 h7 h8=>?_⟩
  · rw [show (a.Plan.Kind==1)=true by simpa using k,cond_true]
    cases atlas_moving FM a (a.Spans[i]) a.Plan<;>rfl
  · rw [show (a.Plan.Kind == 1) = false by rw [k]; rfl, cond_false, show (a.Plan.Past != 0) = false by simpa using h1, cond_false, show ((a.Spans[i]).Group != a.Plan.Group) = false by simpa using h2, cond_false,
      show (a.Plan.Phase != 1)=false by simpa using h3,cond_false,show ((a.Spans[i]).Epoch != a.Plan.Epoch)=false by simpa using h4]
    simp only [Option.bind_some,cond_false]
    rw [show (a.Plan.Kind==2)=true by simpa using k,cond_true,show (a.Plan.Other==a.Last)=true by simpa using h5,cond_true,place_eq hl,Option.bind_some,h6,show decide ((-1:Int)<0)=true from rfl,cond_true,
      inside_eq _ _ (by omega),h7,Option.bind_some,cond_true,List.length_map,decide_eq_true (by omega)]
  · rw [show (a.Plan.Kind == 1) = false by rw [k]; rfl, cond_false, show (a.Plan.Past != 0) = false by simpa using h1, cond_false, show ((a.Spans[i]).Group != a.Plan.Group) = false by simpa using h2, cond_false,
      show (a.Plan.Phase != 1)=false by simpa using h3,cond_false,show ((a.Spans[i]).Epoch != a.Plan.Epoch)=false by simpa using h4]
    simp only [Option.bind_some,cond_false]
    rw [show (a.Plan.Kind==2)=false by rw [k];rfl,cond_false,show (a.Plan.Kind==3)=true by simpa using k,cond_true,show (a.Plan.Key==[])=true by simpa using h5,cond_true,mwa i (by omega),decide_eq_true (by omega),cond_true]
    simp only [mg0,cond_true,mc,List.getElem?_eq_getElem hi1,Option.bind_some]
    rw [show ((a.Spans[i+1]).Shard==a.Plan.Other)=true by simpa using h6,cond_true,show ((a.Spans[i+1]).Group==(a.Spans[i]).Group)=true by simpa using h7,cond_true,decide_eq_true h8]
theorem moving_at (a : api_Atlas) (s : api_Span) (p : api_Plan) (h1 : p.Group ≠ p.Past) (h2 : 1 ≤ p.Group) (h3 : 1 ≤ p.Past) (h4 : p.Group ≤ a.Groups) (h5 : p.Past ≤ a.Groups) (h6 : p.Other = 0) (h7 : p.Key = []) (hs : 1 ≤ s.Epoch ∧ s.Epoch ≤ 1099511627776)
    (h:(p.Phase=1∧s.Group=p.Past∧s.Epoch=p.Epoch)∨((p.Phase=2∨p.Phase=3)∧s.Group=p.Group∧s.Epoch - 1=p.Epoch)):atlas_moving FM a s p=some true:=by
  unfold atlas_moving
  have e1:¬ (if p.Past<p.Group then p.Past else p.Group)<1:=by split<;>omega
  have e2:¬ a.Groups<(if p.Past > p.Group then p.Past else p.Group):=by split<;>omega
  rw [show (p.Group==p.Past)=false by simpa using h1,cond_false,decide_eq_false e1,cond_false,decide_eq_false e2,cond_false,show (p.Other != 0)=false by simpa using h6,cond_false,h7]
  simp only [show (!(([]:List UInt8)==[]))=false from rfl,Option.bind_some,cond_false]
  rcases h with ⟨k1,k2,k3⟩ | ⟨k1,k2,k3⟩
  · rw [show (p.Phase==1)=true by simpa using k1,cond_true,show (s.Group==p.Past)=true by simpa using k2,cond_true,show (s.Epoch==p.Epoch)=true by simpa using k3]
  · have hw:IntKind.wrap IntKind.i64 (s.Epoch - 1)=s.Epoch - 1:=wrap_id (by omega) (by omega)
    rw [hw]
    have g2:(s.Group==p.Group)=true:=by simpa using k2
    have g3:(s.Epoch - 1==p.Epoch)=true:=by simpa using k3
    rcases k1 with k1 | k1
    · rw [show (p.Phase==1)=false by rw [k1];rfl,cond_false,show (p.Phase==2)=true by simpa using k1]
      simp only [cond_true,Option.bind_some,g2,g3]
    · rw [show (p.Phase==1)=false by rw [k1];rfl,cond_false,show (p.Phase==2)=false by rw [k1];rfl,cond_false,show (p.Phase==3)=true by simpa using k1]
      simp only [cond_true,Option.bind_some,g2,g3]
theorem copied_i1 {a:api_Atlas} (h:a.Spans.length≤16):atlas_copied_i1 FM a=some (a.Groups,a.Last,a.Plan.Kind,a.Plan.Phase,a.Plan.Shard,a.Plan.Other,a.Plan.Group,a.Plan.Past,a.Plan.Epoch,a.Plan.Key,a.Spans):=by
  unfold atlas_copied_i1
  first
    | (unfold slices_Clone___api_Span_api_Span__i1;rw [decide_eq_true (by simp only [LIM];omega)];rfl)
    | (unfold slices_Clone___api_Span_api_Span_;rw [decide_eq_true (by simp only [LIM];omega)];rfl)
end Go.T
set_option linter.unusedVariables false
set_option linter.unusedSimpArgs false
namespace Go.T
open Go Go.Ab
def Ch:List UInt8→List api_Span→Prop
  | fr,[]=>False
  | fr,s::l=>s.From=fr∧((l=[]∧s.To=[])∨(nm s.To=true∧Op.bytesLess s.From s.To=true∧Ch s.To l))
theorem ch_cons (fr:List UInt8) (s:api_Span) (l:List api_Span):Ch fr (s::l)↔s.From=fr∧((l=[]∧s.To=[])∨(nm s.To=true∧Op.bytesLess s.From s.To=true∧Ch s.To l)):=Iff.rfl
theorem ch_repl (s:api_Span) (post X:List api_Span) (h:∀ f,Ch f (s::post)→Ch f X):∀ (pre:List api_Span) (fr:List UInt8),Ch fr (pre++s::post)→Ch fr (pre++X):=by
  intro pre
  induction pre with
  | nil=>intro fr hc;exact h fr hc
  | cons p pre ih =>
    intro fr hc
    rw [List.cons_append,ch_cons] at hc ⊢
    obtain ⟨h1,h2⟩:=hc
    refine ⟨h1,?_⟩
    rcases h2 with ⟨h2,_⟩ | ⟨h2,h3,h4⟩
    · simp at h2
    · exact .inr ⟨h2,h3,ih _ h4⟩
theorem ch_at:∀ (l:List api_Span) (fr:List UInt8),Ch fr l→1≤l.length∧(∀ h:0<l.length,(l[0]).From=fr)∧(∀ h:0<l.length,(l[l.length - 1]'(by omega)).To=[])∧∀ i,i<l.length - 1→upAt l i=true:=by
  intro l
  induction l with
  | nil=>intro fr h;exact h.elim
  | cons s l ih =>
    intro fr h
    rw [ch_cons] at h
    obtain ⟨h1,h2⟩:=h
    rcases h2 with ⟨h2,h3⟩ | ⟨h2,h3,h4⟩
    · subst h2
      exact ⟨by simp,fun _=>h1,fun _=>h3,fun i hi=>by simp at hi⟩
    · obtain ⟨i1,i2,i3,i4⟩:=ih _ h4
      refine ⟨by simp,fun _=>h1,fun _=>?_,fun i hi=>?_⟩
      · have:=i3 (by omega)
        have e:(s::l).length - 1=(l.length - 1)+1:=by simp;omega
        have e2:(s::l)[(s::l).length - 1]'(by simp)=l[l.length - 1]'(by omega):=by
          have:∀ k (hk:k<(s::l).length),k=(l.length - 1)+1→(s::l)[k]=l[l.length - 1]'(by omega):=by
            intro k hk e;subst e;exact List.getElem_cons_succ ..
          exact this _ _ e
        rw [e2];exact this
      · cases i with
        | zero =>
          have hl:0<l.length:=by omega
          have:=i2 hl
          unfold upAt up
          rw [show (s::l)[0]? = some s from rfl,show (s::l)[0+1]? = l[0]? from rfl,List.getElem?_eq_getElem hl]
          simp only [h2,bl_asym _ _ h3,this]
          have:(s.To==s.From)=false:=by
            rw [beq_eq_false_iff_ne];intro e;rw [e,bl_irr] at h3;cases h3
          rw [this];simp
        | succ i =>
          have:=i4 i (by simp at hi;omega)
          unfold upAt at this ⊢
          exact this
def Mp (groups last:Int) (l:List api_Span):Prop:=1≤groups∧groups≤8∧last≤1099511627776∧l.length≤16∧Ch [] l∧(l.Pairwise fun a b=>a.Shard≠b.Shard) ∧
  ∀ s,s∈l→1≤s.Shard∧s.Shard≤last∧1≤s.Epoch∧s.Epoch≤1099511627776∧1≤s.Group∧s.Group≤groups
theorem mp_spans {a:api_Atlas} (h:Mp a.Groups a.Last a.Spans):SpansOk a:=by
  obtain ⟨h1,h2,h3,h4,h5,h6,h7⟩:=h
  obtain ⟨c1,c2,c3,c4⟩:=ch_at _ _ h5
  refine ⟨by omega,by omega,by omega,⟨c1,h4,c2,c3,c4⟩,fun i hi=>?_⟩
  have hp:=List.pairwise_iff_getElem.1 h6
  have hpl:plc a.Spans (a.Spans[i]).Shard=i:=plc_unique hi rfl fun k hk=>hp k i (by omega) hi hk
  obtain ⟨b1,b2,b3,b4,b5,b6⟩:=h7 _ (List.getElem_mem hi)
  unfold own
  rw [List.getElem?_eq_getElem hi]
  simp only [hpl,Bool.and_eq_true,Bool.not_eq_true',decide_eq_false_iff_not,beq_iff_eq]
  exact ⟨⟨⟨⟨⟨⟨by omega,by omega⟩,trivial⟩,by omega⟩,by omega⟩,by omega⟩,by omega⟩
theorem mp_set {groups last : Int} {pre post : List api_Span} {s : api_Span} (h : Mp groups last (pre ++ s :: post)) (t : api_Span) (h1 : t.From = s.From) (h2 : t.To = s.To) (h3 : t.Shard = s.Shard) (h4 : 1 ≤ t.Epoch ∧ t.Epoch ≤ 1099511627776) (h5 : 1 ≤ t.Group ∧ t.Group ≤ groups) :
    Mp groups last (pre++t::post):=by
  obtain ⟨q1,q2,q3,q4,q5,q6,q7⟩:=h
  refine ⟨q1,q2,q3,by simpa using q4,ch_repl s post _ (fun f hf=>?_) pre [] q5,?_,fun x hx=>?_⟩
  · rw [ch_cons] at hf ⊢
    rw [h1,h2];exact hf
  · rw [List.pairwise_append,List.pairwise_cons] at q6 ⊢
    obtain ⟨p1,⟨p2,p3⟩,p4⟩:=q6
    refine ⟨p1,⟨fun x hx=>by rw [h3];exact p2 x hx,p3⟩,fun x hx y hy=>?_⟩
    rcases List.mem_cons.1 hy with hy | hy
    · subst hy;rw [h3];exact p4 x hx s List.mem_cons_self
    · exact p4 x hx y (List.mem_cons_of_mem _ hy)
  · rw [List.mem_append,List.mem_cons] at hx
    rcases hx with hx | hx | hx
    · exact q7 x (List.mem_append_left _ hx)
    · subst hx
      have:=q7 s (List.mem_append_right _ List.mem_cons_self)
      rw [h3]
      exact ⟨this.1,this.2.1,h4.1,h4.2,h5.1,h5.2⟩
    · exact q7 x (List.mem_append_right _ (List.mem_cons_of_mem _ hx))
def lowSpan (s:api_Span) (key:List UInt8):api_Span:=⟨s.From,key,s.Shard,s.Epoch+1,s.Group⟩
def upSpan (s:api_Span) (key:List UInt8) (id:Int):api_Span:=⟨key,s.To,id,s.Epoch+1,s.Group⟩
theorem mp_split {groups last : Int} {pre post : List api_Span} {s : api_Span} (h : Mp groups last (pre ++ s :: post)) (key : List UInt8) (hk : insB s key = true) (hl : (pre ++ s :: post).length < 16) (hlast : last < 1099511627776) (hl0 : 1 ≤ last) (he : s.Epoch ≤ 1099511627774) :
    Mp groups (last+1) (pre++lowSpan s key::upSpan s key (last+1)::post):=by
  obtain ⟨q1,q2,q3,q4,q5,q6,q7⟩:=h
  unfold insB at hk
  simp only [Bool.and_eq_true,Bool.or_eq_true,beq_iff_eq] at hk
  obtain ⟨⟨k1,k2⟩,k3⟩:=hk
  refine ⟨q1,q2,by omega,by simp at hl ⊢;omega,ch_repl s post _ (fun f hf=>?_) pre [] q5,?_,fun x hx=>?_⟩
  · rw [ch_cons] at hf
    obtain ⟨h1,h2⟩:=hf
    rw [ch_cons]
    refine ⟨h1,.inr ⟨k1,k2,?_⟩⟩
    rw [ch_cons]
    refine ⟨rfl,?_⟩
    rcases h2 with ⟨h2,h3⟩ | ⟨h2,h3,h4⟩
    · exact .inl ⟨h2,h3⟩
    · refine .inr ⟨h2,?_,h4⟩
      rcases k3 with k3 | k3
      · exact absurd k3 (nm_ne h2)
      · exact k3
  · rw [List.pairwise_append,List.pairwise_cons] at q6
    obtain ⟨p1,⟨p2,p3⟩,p4⟩:=q6
    rw [List.pairwise_append,List.pairwise_cons,List.pairwise_cons]
    have hlt:∀ x,x∈pre++s::post→x.Shard≤last:=fun x hx=>(q7 x hx).2.1
    refine ⟨p1,⟨fun x hx=>?_,fun x hx=>?_,p3⟩,fun x hx y hy=>?_⟩
    · rcases List.mem_cons.1 hx with hx | hx
      · subst hx
        have:=hlt s (List.mem_append_right _ List.mem_cons_self)
        show s.Shard≠last+1;omega
      · exact p2 x hx
    · have:=hlt x (List.mem_append_right _ (List.mem_cons_of_mem _ hx))
      show last+1≠x.Shard;omega
    · rcases List.mem_cons.1 hy with hy | hy
      · subst hy;exact p4 x hx s List.mem_cons_self
      · rcases List.mem_cons.1 hy with hy | hy
        · subst hy
          have:=hlt x (List.mem_append_left _ hx)
          show x.Shard≠last+1;omega
        · exact p4 x hx y (List.mem_cons_of_mem _ hy)
  · rw [List.mem_append,List.mem_cons,List.mem_cons] at hx
    have hs:=q7 s (List.mem_append_right _ List.mem_cons_self)
    rcases hx with hx | hx | hx | hx
    · have:=q7 x (List.mem_append_left _ hx);exact ⟨this.1,by omega,this.2.2⟩
    · subst hx;show 1≤s.Shard∧s.Shard≤last+1∧1≤s.Epoch+1∧s.Epoch+1≤_∧1≤s.Group∧s.Group≤groups;omega
    · subst hx;show 1≤last+1∧last+1≤last+1∧1≤s.Epoch+1∧s.Epoch+1≤_∧1≤s.Group∧s.Group≤groups;omega
    · have:=q7 x (List.mem_append_right _ (List.mem_cons_of_mem _ hx));exact ⟨this.1,by omega,this.2.2⟩
def mergedSpan (s t:api_Span):api_Span:=⟨s.From,t.To,s.Shard,(if t.Epoch > s.Epoch then t.Epoch else s.Epoch)+1,s.Group⟩
theorem mp_merge {groups last : Int} {pre post : List api_Span} {s t : api_Span} (h : Mp groups last (pre ++ s :: t :: post)) (he : s.Epoch ≤ 1099511627774) (he' : t.Epoch ≤ 1099511627774) :
    Mp groups last (pre++mergedSpan s t::post):=by
  obtain ⟨q1,q2,q3,q4,q5,q6,q7⟩:=h
  refine ⟨q1,q2,q3,by simp at q4 ⊢;omega,ch_repl s (t::post) _ (fun f hf=>?_) pre [] q5,?_,fun x hx=>?_⟩
  · rw [ch_cons] at hf
    obtain ⟨h1,h2⟩:=hf
    rw [ch_cons]
    refine ⟨h1,?_⟩
    rcases h2 with ⟨h2,h3⟩ | ⟨h2,h3,h4⟩
    · cases h2
    · rw [ch_cons] at h4
      obtain ⟨c1,c2⟩:=h4
      rcases c2 with ⟨c2,c3⟩ | ⟨c2,c3,c4⟩
      · exact .inl ⟨c2,c3⟩
      · refine .inr ⟨c2,?_,c4⟩
        rw [c1] at c3
        exact bl_trans _ _ _ h3 c3
  · rw [List.pairwise_append,List.pairwise_cons,List.pairwise_cons] at q6
    obtain ⟨p1,⟨p2,p3,p4⟩,p5⟩:=q6
    rw [List.pairwise_append,List.pairwise_cons]
    refine ⟨p1,⟨fun x hx=>p2 x (List.mem_cons_of_mem _ hx),p4⟩,fun x hx y hy=>?_⟩
    rcases List.mem_cons.1 hy with hy | hy
    · subst hy;exact p5 x hx s List.mem_cons_self
    · exact p5 x hx y (List.mem_cons_of_mem _ (List.mem_cons_of_mem _ hy))
  · rw [List.mem_append,List.mem_cons] at hx
    have hs:=q7 s (List.mem_append_right _ List.mem_cons_self)
    rcases hx with hx | hx | hx
    · exact q7 x (List.mem_append_left _ hx)
    · subst hx
      have e1:s.Epoch≤(if t.Epoch > s.Epoch then t.Epoch else s.Epoch):=by split<;>omega
      have e2:(if t.Epoch > s.Epoch then t.Epoch else s.Epoch)≤1099511627774:=by split<;>omega
      exact ⟨hs.1,hs.2.1,by show 1≤_+1;omega,by show _+1≤_;omega,hs.2.2.2.2.1,hs.2.2.2.2.2⟩
    · exact q7 x (List.mem_append_right _ (List.mem_cons_of_mem _ (List.mem_cons_of_mem _ hx)))
end Go.T
set_option linter.unusedVariables false
set_option linter.unusedSimpArgs false
namespace Go.T
open Go Go.Ab
theorem at_mid {α:Type} (pre:List α) (s:α) (post:List α):(pre++s::post)[pre.length]? = some s:=by simp
theorem set_mid {α:Type} (pre:List α) (s t:α) (post:List α):(pre++s::post).set pre.length t=pre++t::post:=by simp
theorem at_mid1 {α:Type} (pre:List α) (s t:α) (post:List α):(pre++s::t::post)[pre.length+1]? = some t:=by
  have:pre++s::t::post=(pre++[s])++t::post:=by simp
  rw [this]
  have h:=at_mid (pre++[s]) t post
  simp at h ⊢
def mvSpan (s:api_Span) (g:Int):api_Span:=⟨s.From,s.To,s.Shard,s.Epoch+1,g⟩
theorem plc_mid {groups last:Int} {pre post:List api_Span} {s:api_Span} (h:Mp groups last (pre++s::post)):plc (pre++s::post) s.Shard=(pre.length:Nat):=by
  have hp:=h.2.2.2.2.2.1
  rw [List.pairwise_append] at hp
  have hlt:pre.length<(pre++s::post).length:=by simp
  have hg:(pre++s::post)[pre.length]=s:=by simp
  refine plc_unique hlt (by rw [hg]) fun i hi=>?_
  have:(pre++s::post)[i]'(by simp;omega)=pre[i]:=List.getElem_append_left hi
  rw [this]
  exact hp.2.2 _ (List.getElem_mem hi) s List.mem_cons_self
theorem mid_facts {groups last:Int} {pre post:List api_Span} {s:api_Span} (h:Mp groups last (pre++s::post)):1≤s.Shard∧s.Shard≤last∧1≤s.Epoch∧s.Epoch≤1099511627776∧1≤s.Group∧s.Group≤groups :=
  h.2.2.2.2.2.2 s (List.mem_append_right _ List.mem_cons_self)
def mvA (G last:Int) (pre post:List api_Span) (s:api_Span) (g:Int):api_Atlas:=⟨G,last,pre++s::post,moveP s g 1⟩
def mvB (G last:Int) (pre post:List api_Span) (s:api_Span) (g ph:Int):api_Atlas:=⟨G,last,pre++mvSpan s g::post,moveP s g ph⟩
def spA (G last:Int) (pre post:List api_Span) (s:api_Span) (key:List UInt8):api_Atlas:=⟨G,last+1,pre++s::post,splitP s last key⟩
def mgA (G last:Int) (pre post:List api_Span) (s t:api_Span):api_Atlas:=⟨G,last,pre++s::t::post,mergeP s t⟩
theorem mvB_mp {G last:Int} {pre post:List api_Span} {s:api_Span} {g:Int} (h:Mp G last (pre++s::post)) (hg:1≤g∧g≤G) (he:s.Epoch≤1099511627774):Mp G last (pre++mvSpan s g::post):=by
  have f:=mid_facts h
  exact mp_set h (mvSpan s g) rfl rfl rfl ⟨by show 1≤s.Epoch+1;omega,by show s.Epoch+1≤_;omega⟩ hg
theorem plc_mvB {G last:Int} {pre post:List api_Span} {s:api_Span} {g:Int} (h:Mp G last (pre++s::post)) (hg:1≤g∧g≤G) (he:s.Epoch≤1099511627774):plc (pre++mvSpan s g::post) s.Shard=(pre.length:Nat):=plc_mid (mvB_mp h hg he)
theorem chk_mvA {G last:Int} {pre post:List api_Span} {s:api_Span} {g:Int} (h:Mp G last (pre++s::post)) (hg:1≤g∧g≤G) (hne:g≠s.Group) (he:s.Epoch≤1099511627774):atlas_Check FM (mvA G last pre post s g)=some true:=by
  have f:=mid_facts h
  rw [check_planned (mp_spans (a:=mvA G last pre post s g) h)]
  have:=(planned_at (mvA G last pre post s g) h.2.2.2.1 (by show (1:Int)≠0;decide) pre.length (by simp [mvA]) (plc_mid h) f.2.2.1 he).1 rfl
  rw [this]
  refine moving_at _ _ _ hne hg.1 f.2.2.2.2.1 hg.2 f.2.2.2.2.2 rfl rfl ?_ (.inl ⟨rfl,?_,?_⟩)
  all_goals simp only [mvA,List.getElem_append_right (Nat.le_refl _),Nat.sub_self,List.getElem_cons_zero]
  · omega
  · rfl
  · rfl
theorem chk_mvB {G last:Int} {pre post:List api_Span} {s:api_Span} {g ph:Int} (h:Mp G last (pre++s::post)) (hg:1≤g∧g≤G) (hne:g≠s.Group) (he:s.Epoch≤1099511627774) (hph:ph=2∨ph=3):atlas_Check FM (mvB G last pre post s g ph)=some true:=by
  have f:=mid_facts h
  have h':=mvB_mp h hg he
  rw [check_planned (mp_spans (a:=mvB G last pre post s g ph) h')]
  have:=(planned_at (mvB G last pre post s g ph) h'.2.2.2.1 (by show (1:Int)≠0;decide) pre.length (by simp [mvB]) (plc_mvB h hg he) f.2.2.1 he).1 rfl
  rw [this]
  refine moving_at _ _ _ hne hg.1 f.2.2.2.2.1 hg.2 f.2.2.2.2.2 rfl rfl ?_ (.inr ⟨hph,?_,?_⟩)
  all_goals simp only [mvB,List.getElem_append_right (Nat.le_refl _),Nat.sub_self,List.getElem_cons_zero,mvSpan,moveP]
  · omega
  · omega
theorem chk_spA {G last:Int} {pre post:List api_Span} {s:api_Span} {key:List UInt8} (h:Mp G last (pre++s::post)) (hk:insB s key=true) (hl:(pre++s::post).length<16) (hlast:last<1099511627776) (he:s.Epoch≤1099511627774):atlas_Check FM (spA G last pre post s key)=some true:=by
  have f:=mid_facts h
  have hs:SpansOk (spA G last pre post s key):=spans_withP (a:=⟨G,last,pre++s::post,noP⟩) (mp_spans (a:=⟨G,last,pre++s::post,noP⟩) h) (splitP s last key) (last+1) (by show last≤last+1;omega) (by omega)
  rw [check_planned hs]
  have hno:plc (pre++s::post) (last+1) = -1:=plc_none fun i hi e=>by
    have:=(h.2.2.2.2.2.2 _ (List.getElem_mem hi)).2.1;omega
  have hkl:key.length≤16:=by
    unfold insB at hk
    simp only [Bool.and_eq_true] at hk
    exact nm_len hk.1.1
  have hi:pre.length<(spA G last pre post s key).Spans.length:=by simp [spA]
  have hg:(spA G last pre post s key).Spans[pre.length]=s:=by simp [spA]
  exact (planned_at (spA G last pre post s key) h.2.2.2.1 (by show (2:Int)≠0;decide) pre.length hi (plc_mid h) f.2.2.1 he).2.1 rfl rfl (by rw [hg];rfl) rfl (by rw [hg];rfl) rfl hno (by rw [hg];exact hk) hkl hl
theorem chk_mgA {G last:Int} {pre post:List api_Span} {s t:api_Span} (h:Mp G last (pre++s::t::post)) (hg:t.Group=s.Group) (he:s.Epoch≤1099511627774) (he':t.Epoch≤1099511627774):atlas_Check FM (mgA G last pre post s t)=some true:=by
  have f:=mid_facts h
  rw [check_planned (mp_spans (a:=mgA G last pre post s t) h)]
  have hi:pre.length<(mgA G last pre post s t).Spans.length:=by simp [mgA]
  have hi1:pre.length+1<(mgA G last pre post s t).Spans.length:=by simp [mgA]
  have hgs:(mgA G last pre post s t).Spans[pre.length]=s:=by simp [mgA]
  have hgt:(mgA G last pre post s t).Spans[pre.length+1]=t:=by
    have h1:(mgA G last pre post s t).Spans[pre.length+1]? = some t:=at_mid1 pre s t post
    rw [List.getElem?_eq_getElem hi1] at h1
    exact Option.some.inj h1
  exact (planned_at (mgA G last pre post s t) h.2.2.2.1 (by show (3:Int)≠0;decide) pre.length hi (plc_mid h) f.2.2.1 he).2.2 hi1 rfl rfl (by rw [hgs];rfl) rfl (by rw [hgs];rfl) rfl (by rw [hgt];rfl) (by rw [hgt,hgs];exact hg) (by rw [hgt];exact he')
theorem adv_mvA {G last : Int} {pre post : List api_Span} {s : api_Span} {g : Int} (h : Mp G last (pre ++ s :: post)) (hg : 1 ≤ g ∧ g ≤ G) (hne : g ≠ s.Group) (he : s.Epoch ≤ 1099511627774) :
    atlas_Advance FM (mvA G last pre post s g) 1=some (mvB G last pre post s g 2,0):=by
  have f:=mid_facts h
  have hw:IntKind.wrap IntKind.i64 (s.Epoch+1)=s.Epoch+1:=wrap_id (by omega) (by omega)
  have hl:(pre++s::post).length≤16:=h.2.2.2.1
  unfold atlas_Advance
  rw [chk_mvA h hg hne he,Option.bind_some,Bool.not_true,cond_false,copied_i1 (a:=mvA G last pre post s g) hl]
  simp only [Option.bind_some,mvA,moveP,show ((1:Int)==0)=false from rfl,show ((1:Int) != 1)=false from rfl,cond_false]
  rw [place_eq (a:=⟨G,last,pre++s::post,⟨1,1,s.Shard,0,g,s.Group,s.Epoch,[]⟩⟩) hl,Option.bind_some]
  simp only [plc_mid h,mg0,cond_true,mc,at_mid,Option.bind_some,show ((1:Int)==9)=false from rfl,show ((1:Int)==1)=true from rfl,cond_false,set_mid,hw]
  rfl
theorem adv_mvB2 {G last : Int} {pre post : List api_Span} {s : api_Span} {g : Int} (h : Mp G last (pre ++ s :: post)) (hg : 1 ≤ g ∧ g ≤ G) (hne : g ≠ s.Group) (he : s.Epoch ≤ 1099511627774) :
    atlas_Advance FM (mvB G last pre post s g 2) 2=some (mvB G last pre post s g 3,0):=by
  have hl:(pre++mvSpan s g::post).length≤16:=(mvB_mp h hg he).2.2.2.1
  unfold atlas_Advance
  rw [chk_mvB h hg hne he (.inl rfl),Option.bind_some,Bool.not_true,cond_false,copied_i1 (a:=mvB G last pre post s g 2) hl]
  simp only [Option.bind_some,mvB,moveP,show ((1:Int)==0)=false from rfl,show ((2:Int) != 2)=false from rfl,cond_false]
  rw [place_eq (a:=⟨G,last,pre++mvSpan s g::post,⟨1,2,s.Shard,0,g,s.Group,s.Epoch,[]⟩⟩) hl,Option.bind_some]
  simp only [plc_mvB h hg he,mg0,cond_true,mc,at_mid,Option.bind_some,show ((2:Int)==9)=false from rfl,show ((1:Int)==1)=true from rfl,show ((2:Int)==1)=false from rfl,show ((2:Int)==2)=true from rfl,cond_false]
theorem adv_mvB3 {G last : Int} {pre post : List api_Span} {s : api_Span} {g : Int} (h : Mp G last (pre ++ s :: post)) (hg : 1 ≤ g ∧ g ≤ G) (hne : g ≠ s.Group) (he : s.Epoch ≤ 1099511627774) :
    atlas_Advance FM (mvB G last pre post s g 3) 3=some (⟨G,last,pre++mvSpan s g::post,noP⟩,0):=by
  have hl:(pre++mvSpan s g::post).length≤16:=(mvB_mp h hg he).2.2.2.1
  unfold atlas_Advance
  rw [chk_mvB h hg hne he (.inr rfl),Option.bind_some,Bool.not_true,cond_false,copied_i1 (a:=mvB G last pre post s g 3) hl]
  simp only [Option.bind_some,mvB,moveP,show ((1:Int)==0)=false from rfl,show ((3:Int) != 3)=false from rfl,cond_false]
  rw [place_eq (a:=⟨G,last,pre++mvSpan s g::post,⟨1,3,s.Shard,0,g,s.Group,s.Epoch,[]⟩⟩) hl,Option.bind_some]
  simp only [plc_mvB h hg he,mg0,cond_true,mc,at_mid,Option.bind_some,show ((3:Int)==9)=false from rfl,show ((1:Int)==1)=true from rfl,show ((3:Int)==1)=false from rfl,show ((3:Int)==2)=false from rfl,show ((1:Int)==2)=false from rfl,show ((1:Int)==3)=false from rfl,cond_false]
  rfl
theorem mid_take {α:Type} (pre:List α) (s:α) (post:List α):(pre++s::post).take (pre.length+1)=pre++[s]:=by
  rw [show pre++s::post=(pre++[s])++post by simp]
  exact List.take_left' (by simp)
theorem mid_drop {α:Type} (pre:List α) (s:α) (post:List α):(pre++s::post).drop (pre.length+1)=post:=by
  rw [show pre++s::post=(pre++[s])++post by simp]
  exact List.drop_left' (by simp)
theorem adv_spA {G last : Int} {pre post : List api_Span} {s : api_Span} {key : List UInt8} (h : Mp G last (pre ++ s :: post)) (hk : insB s key = true) (hl : (pre ++ s :: post).length < 16) (hlast : last < 1099511627776) (he : s.Epoch ≤ 1099511627774) :
    atlas_Advance FM (spA G last pre post s key) 1=some (⟨G,last+1,pre++lowSpan s key::upSpan s key (last+1)::post,noP⟩,0):=by
  have f:=mid_facts h
  have hw:IntKind.wrap IntKind.i64 (s.Epoch+1)=s.Epoch+1:=wrap_id (by omega) (by omega)
  have hl':(pre++s::post).length≤16:=h.2.2.2.1
  unfold atlas_Advance
  rw [chk_spA h hk hl hlast he,Option.bind_some,Bool.not_true,cond_false,copied_i1 (a:=spA G last pre post s key) hl']
  simp only [Option.bind_some,spA,splitP,show ((2:Int)==0)=false from rfl,show ((1:Int) != 1)=false from rfl,cond_false]
  rw [place_eq (a:=⟨G,last+1,pre++s::post,⟨2,1,s.Shard,last+1,s.Group,0,s.Epoch,key⟩⟩) hl',Option.bind_some]
  simp only [plc_mid h,mg0,cond_true,mc,at_mid,Option.bind_some,show ((1:Int)==9)=false from rfl,show ((2:Int)==1)=false from rfl,show ((2:Int)==2)=true from rfl,cond_false,set_mid,hw]
  rw [mwa pre.length (by simp at hl;omega)]
  unfold slices_Insert___api_Span_api_Span__i1
  simp only [mc]
  rw [decide_eq_true (by refine ⟨by omega,?_,?_⟩<;>simp at hl ⊢<;>simp only [LIM]<;>omega)]
  simp only [cond_true,Option.bind_some,mid_take,mid_drop,List.append_assoc,List.singleton_append]
  rfl
theorem adv_mgA {G last : Int} {pre post : List api_Span} {s t : api_Span} (h : Mp G last (pre ++ s :: t :: post)) (hg : t.Group = s.Group) (he : s.Epoch ≤ 1099511627774) (he' : t.Epoch ≤ 1099511627774) :
    atlas_Advance FM (mgA G last pre post s t) 1=some (⟨G,last,pre++mergedSpan s t::post,noP⟩,0):=by
  have f:=mid_facts h
  have hl:(pre++s::t::post).length≤16:=h.2.2.2.1
  have hft:1≤t.Epoch:=(h.2.2.2.2.2.2 t (by simp)).2.2.1
  have hw:IntKind.wrap IntKind.i64 ((if t.Epoch > s.Epoch then t.Epoch else s.Epoch)+1)=(if t.Epoch > s.Epoch then t.Epoch else s.Epoch)+1:=wrap_id (by split<;>omega) (by split<;>omega)
  have hw2:IntKind.wrap IntKind.i64 ((pre.length:Int)+2)=((pre.length+2:Nat):Int):=by rw [wrap_id (by omega) (by simp at hl;omega)];omega
  unfold atlas_Advance
  rw [chk_mgA h hg he he',Option.bind_some,Bool.not_true,cond_false,copied_i1 (a:=mgA G last pre post s t) hl]
  simp only [Option.bind_some,mgA,mergeP,show ((3:Int)==0)=false from rfl,show ((1:Int) != 1)=false from rfl,cond_false]
  rw [place_eq (a:=⟨G,last,pre++s::t::post,⟨3,1,s.Shard,t.Shard,s.Group,0,s.Epoch,[]⟩⟩) hl,Option.bind_some]
  simp only [plc_mid h]
  rw [mwa pre.length (by simp at hl;omega),hw2]
  simp only [mg0,cond_true,mc,at_mid,at_mid1,Option.bind_some,show ((1:Int)==9)=false from rfl,show ((3:Int)==1)=false from rfl,show ((3:Int)==2)=false from rfl,show ((3:Int)==3)=true from rfl,cond_false,set_mid,hw]
  unfold slices_Delete___api_Span_api_Span__i1
  simp only [mc]
  rw [decide_eq_true (by refine ⟨by omega,by omega,?_⟩;simp)]
  simp only [cond_true,Option.bind_some,mid_take]
  have hd:∀ x:api_Span,(pre++x::t::post).drop (pre.length+1+1)=post:=by
    intro x
    rw [show pre++x::t::post=(pre++[x])++t::post by simp]
    have:=mid_drop (pre++[x]) t post
    rw [List.length_append,List.length_singleton] at this
    exact this
  rw [hd]
  simp only [List.append_assoc,List.singleton_append]
  rfl
end Go.T
set_option linter.unusedVariables false
set_option linter.unusedSimpArgs false
namespace Go.T
open Go Go.Ab
def noC:api_Cmd:=⟨0,0,0,[],[],[],[],0⟩
def ord (k id ep past:Int):api_Order:=⟨k,id,ep,0,past,[],noC,noS⟩
def insO (h:api_Shard) (ep:Int):api_Order:=⟨4,0,0,0,0,[],noC,⟨h.Id,ep,3,h.From,h.To,h.Jobs,h.Seen⟩⟩
def splO (s:api_Span) (last:Int) (key:List UInt8):api_Order:=⟨7,s.Shard,s.Epoch,last+1,s.Epoch+1,key,noC,noS⟩
def mrgO (s t:api_Span):api_Order:=⟨8,s.Shard,s.Epoch,t.Shard,(if t.Epoch > s.Epoch then t.Epoch else s.Epoch)+1,[],noC,⟨0,t.Epoch,0,[],[],[],[]⟩⟩
theorem next_no {a:api_Atlas} (h:SpansOk a) (hp:a.Plan=noP) (x:api_Shard):∃ g o,mover_Next FM a x=some (g,o,false):=by
  unfold mover_Next
  rw [check_no h hp,Option.bind_some,Bool.not_true,cond_false,hp]
  exact ⟨_,_,rfl⟩
theorem has_eq (p:api_Plan) (h:api_Shard):mover_has FM p h=some (h.Id==p.Shard && h.Epoch==p.Epoch):=by
  unfold mover_has
  cases (h.Id==p.Shard)<;>rfl
theorem moving_loop {l : List api_Seen} (hl : l.length ≤ 2000000) (hj : ∀ y, y ∈ l → y.Result.Jobs.length ≤ 2000000) :
    ∀ n (i:Nat),l.length - i<n→mover_moving_l0 FM l n (i:Int) l=some l:=by
  intro n
  induction n with
  | zero=>intro i h;omega
  | succ n ih =>
    intro i h
    simp only [mover_moving_l0]
    by_cases hi:i<l.length
    · rw [decide_eq_true (by omega),cond_true]
      simp only [mg0,mwa i (by omega),cond_true,mc,List.getElem?_eq_getElem hi,Option.bind_some,clone_jobs _ (hj _ (List.getElem_mem hi))]
      have e:l.set i ⟨l[i].Client,l[i].Seq,⟨l[i].Result.Err,l[i].Result.Time,l[i].Result.Jobs⟩⟩=l:=List.set_getElem_self hi
      rw [e]
      exact ih (i+1) (by omega)
    · rw [decide_eq_false (by omega)];rfl
section
variable {G last:Int} {pre post:List api_Span} {s:api_Span} {g:Int}
theorem next_mvA_no (h : Mp G last (pre ++ s :: post)) (hg : 1 ≤ g ∧ g ≤ G) (hne : g ≠ s.Group) (he : s.Epoch ≤ 1099511627774) (x : api_Shard) (hx : ¬ (x.Id = s.Shard ∧ x.Epoch = s.Epoch)) :
    mover_Next FM (mvA G last pre post s g) x=some (s.Group,ord 2 s.Shard s.Epoch 0,true):=by
  have hh:(x.Id==s.Shard && x.Epoch==s.Epoch)=false:=by
    rw [Bool.and_eq_false_iff,beq_eq_false_iff_ne,beq_eq_false_iff_ne];omega
  unfold mover_Next
  rw [chk_mvA h hg hne he,Option.bind_some,Bool.not_true,cond_false]
  simp only [Option.bind_some,mvA,moveP,show ((1:Int)==0)=false from rfl,cond_false,show ((1:Int)==9)=false from rfl,show ((1:Int)==1)=true from rfl,cond_true]
  unfold mover_moving
  simp only [show ((1:Int)==1)=true from rfl,cond_true,has_eq,hh,Option.bind_some,Bool.not_false,Sum.elim_inl]
  rfl
theorem next_mvA_has (h : Mp G last (pre ++ s :: post)) (hg : 1 ≤ g ∧ g ≤ G) (hne : g ≠ s.Group) (he : s.Epoch ≤ 1099511627774) (x : api_Shard) (hx : x.Id = s.Shard ∧ x.Epoch = s.Epoch) (hb : SB x) :
    mover_Next FM (mvA G last pre post s g) x=some (g,insO x (s.Epoch+1),true):=by
  have f:=mid_facts h
  have hw:IntKind.wrap IntKind.i64 (s.Epoch+1)=s.Epoch+1:=wrap_id (by omega) (by omega)
  have hh:(x.Id==s.Shard && x.Epoch==s.Epoch)=true:=by rw [hx.1,hx.2];simp
  have hlp:=moving_loop hb.2.1 hb.2.2 FM 0 (by have:=hb.2.1;show _<4000000;omega)
  simp only [Int.natCast_zero] at hlp
  unfold mover_Next
  rw [chk_mvA h hg hne he,Option.bind_some,Bool.not_true,cond_false]
  simp only [Option.bind_some,mvA,moveP,show ((1:Int)==0)=false from rfl,cond_false,show ((1:Int)==9)=false from rfl,show ((1:Int)==1)=true from rfl,cond_true]
  unfold mover_moving
  simp only [show ((1:Int)==1)=true from rfl,cond_true,has_eq,hh,Option.bind_some,Bool.not_true,cond_false,clone_jobs _ hb.1,clone_seen _ hb.2.1,hlp,Sum.elim_inl,hw]
  rfl
theorem next_mvB2 (h : Mp G last (pre ++ s :: post)) (hg : 1 ≤ g ∧ g ≤ G) (hne : g ≠ s.Group) (he : s.Epoch ≤ 1099511627774) (x : api_Shard) :
    mover_Next FM (mvB G last pre post s g 2) x=some (g,ord 5 s.Shard (s.Epoch+1) 0,true):=by
  have f:=mid_facts h
  have hw:IntKind.wrap IntKind.i64 (s.Epoch+1)=s.Epoch+1:=wrap_id (by omega) (by omega)
  unfold mover_Next
  rw [chk_mvB h hg hne he (.inl rfl),Option.bind_some,Bool.not_true,cond_false]
  simp only [Option.bind_some,mvB,moveP,show ((1:Int)==0)=false from rfl,cond_false,show ((2:Int)==9)=false from rfl,show ((1:Int)==1)=true from rfl,cond_true]
  unfold mover_moving
  simp only [show ((2:Int)==1)=false from rfl,show ((2:Int)==2)=true from rfl,cond_true,Option.bind_some,cond_false,Sum.elim_inl,hw]
  rfl
theorem next_mvB3 (h : Mp G last (pre ++ s :: post)) (hg : 1 ≤ g ∧ g ≤ G) (hne : g ≠ s.Group) (he : s.Epoch ≤ 1099511627774) (x : api_Shard) :
    mover_Next FM (mvB G last pre post s g 3) x=some (s.Group,ord 6 s.Shard s.Epoch 0,true):=by
  unfold mover_Next
  rw [chk_mvB h hg hne he (.inr rfl),Option.bind_some,Bool.not_true,cond_false]
  simp only [Option.bind_some,mvB,moveP,show ((1:Int)==0)=false from rfl,cond_false,show ((3:Int)==9)=false from rfl,show ((1:Int)==1)=true from rfl,cond_true]
  unfold mover_moving
  simp only [show ((3:Int)==1)=false from rfl,show ((3:Int)==2)=false from rfl,cond_true,Option.bind_some,cond_false,Sum.elim_inr]
  rfl
theorem next_spA {key : List UInt8} (h : Mp G last (pre ++ s :: post)) (hk : insB s key = true) (hl : (pre ++ s :: post).length < 16) (hlast : last < 1099511627776) (he : s.Epoch ≤ 1099511627774) (x : api_Shard) :
    mover_Next FM (spA G last pre post s key) x=some (s.Group,splO s last key,true):=by
  have f:=mid_facts h
  have hw:IntKind.wrap IntKind.i64 (s.Epoch+1)=s.Epoch+1:=wrap_id (by omega) (by omega)
  unfold mover_Next
  rw [chk_spA h hk hl hlast he,Option.bind_some,Bool.not_true,cond_false]
  simp only [Option.bind_some,spA,splitP,show ((2:Int)==0)=false from rfl,cond_false,show ((1:Int)==9)=false from rfl,show ((2:Int)==1)=false from rfl,show ((2:Int)==2)=true from rfl,cond_true,hw]
  rfl
theorem find_other {a:api_Atlas} (hs:a.Spans.length≤16):slices_IndexFunc___api_Span_api_Span__i1 FM a.Spans a.Plan=some (plc a.Spans a.Plan.Other):=by
  have hl:=findLoop (fun n i=>slices_IndexFunc___api_Span_api_Span__i1_l0 FM a.Spans a.Plan n i) a.Spans.length (at_sh a.Spans a.Plan.Other)
    (fun n i hi=>by
      simp only [slices_IndexFunc___api_Span_api_Span__i1_l0,mover_Next_1]
      rw [decide_eq_true (by omega),cond_true]
      simp only [mg0,cond_true,mc,List.getElem?_eq_getElem hi,Option.bind_some]
      rw [wrap_id (by omega) (by omega)]
      rw [at_sh_lt hi])
    (fun n i hi=>by
      simp only [slices_IndexFunc___api_Span_api_Span__i1_l0]
      rw [decide_eq_false (by omega),cond_false]) FM 0 (by show _<4000000;omega)
  unfold slices_IndexFunc___api_Span_api_Span__i1
  simp only [Int.natCast_zero] at hl
  rcases hl with ⟨j,_,h2,h3,h4,h5⟩ | ⟨h3,h5⟩
  · rw [h5,plc_unique h2 (by rw [at_sh_lt h2] at h3;simpa using h3) (fun i hi e=>by have:=h4 i (Nat.zero_le _) hi;rw [at_sh_lt (by omega)] at this;simp [e] at this)];rfl
  · rw [h5,plc_none (fun i hi e=>by have:=h3 i (Nat.zero_le _) hi;rw [at_sh_lt hi] at this;simp [e] at this)];rfl
theorem next_mgA {t : api_Span} (h : Mp G last (pre ++ s :: t :: post)) (hg : t.Group = s.Group) (he : s.Epoch ≤ 1099511627774) (he' : t.Epoch ≤ 1099511627774) (x : api_Shard) :
    mover_Next FM (mgA G last pre post s t) x=some (s.Group,mrgO s t,true):=by
  have f:=mid_facts h
  have hft:1≤t.Epoch:=(h.2.2.2.2.2.2 t (by simp)).2.2.1
  have hw:IntKind.wrap IntKind.i64 ((if t.Epoch > s.Epoch then t.Epoch else s.Epoch)+1)=(if t.Epoch > s.Epoch then t.Epoch else s.Epoch)+1:=wrap_id (by split<;>omega) (by split<;>omega)
  have hpl:plc (pre++s::t::post) t.Shard=((pre.length+1:Nat):Int):=by
    have h2:Mp G last ((pre++[s])++t::post):=by simpa using h
    have:=plc_mid h2
    simpa using this
  unfold mover_Next
  rw [chk_mgA h hg he he',Option.bind_some,Bool.not_true,cond_false]
  simp only [Option.bind_some,mgA,mergeP,show ((3:Int)==0)=false from rfl,cond_false,show ((1:Int)==9)=false from rfl,show ((3:Int)==1)=false from rfl,show ((3:Int)==2)=false from rfl,cond_true]
  have:=find_other (a:=⟨G,last,pre++s::t::post,⟨3,1,s.Shard,t.Shard,s.Group,0,s.Epoch,[]⟩⟩) h.2.2.2.1
  simp only at this
  rw [this,Option.bind_some,hpl]
  simp only [mg0,cond_true,mc,at_mid1,Option.bind_some]
  show some (s.Group,(api_Order.mk 8 s.Shard s.Epoch t.Shard (IntKind.wrap IntKind.i64 ((if t.Epoch > s.Epoch then t.Epoch else s.Epoch)+1)) [] noC ⟨0,t.Epoch,0,[],[],[],[]⟩),true)=_
  rw [hw]
  rfl
end
theorem heard_ok {a : api_Atlas} {x : api_Shard} {g : Int} {o : api_Order} (h : mover_Next FM a x = some (g, o, true)) (hp : a.Plan.Phase ≠ 9) (r : api_Result) (hr : r.Err = 0) (s : api_Shard) :
    (o.Kind=2→mover_Heard FM a x r s=some (s,0))∧(o.Kind=4→mover_Heard FM a x r s=some (x,1))∧(o.Kind=5→mover_Heard FM a x r s=some (noS,2)) ∧
    (o.Kind=6→mover_Heard FM a x r s=some (x,3))∧(o.Kind=7→mover_Heard FM a x r s=some (x,1))∧(o.Kind=8→mover_Heard FM a x r s=some (x,1)):=by
  have hp9:(a.Plan.Phase==9)=false:=by simpa using hp
  unfold mover_Heard
  rw [h]
  simp only [Option.bind_some,Bool.not_true,cond_false,hp9,hr,List.length_cons,List.length_nil]
  rw [decide_eq_true (show 0+1+1≤LIM by simp only [LIM];omega),decide_eq_true (show 0+1+1+1≤LIM by simp only [LIM];omega),decide_eq_true (show 0+1+1+1+1≤LIM by simp only [LIM];omega),decide_eq_true (show 0+1+1+1+1+1≤LIM by simp only [LIM];omega)]
  simp only [cond_true]
  refine ⟨fun k=>?_,fun k=>?_,fun k=>?_,fun k=>?_,fun k=>?_,fun k=>?_⟩<;>rw [k]<;>first | rfl | (simp;done) | skip
end Go.T
set_option linter.unusedVariables false
set_option linter.unusedSimpArgs false
namespace Go.T
open Go Go.Ab
def cutJ (jobs:List api_Job) (fr ta:List UInt8):List api_Job:=jobs.filter fun j=>inB fr ta j.Name
def spanS (jobs:List api_Job) (seen:List api_Seen) (s:api_Span):api_Shard:=⟨s.Shard,s.Epoch,1,s.From,s.To,cutJ jobs s.From s.To,seen⟩
def gi (g:Int):Nat:=(g - 1).toNat
def Start (jobs:List api_Job) (seen:List api_Seen):Prop:=JobsR jobs∧jobs.length≤16∧(∀ j,j∈jobs→nm j.Name=true)∧seat_Check FM seen=some true∧seen.length≤2000000∧(∀ r,r∈seen→r.Result.Jobs.length≤2000000)∧seat_Join FM seen seen=some (seen,0)
structure Inv (jobs:List api_Job) (seen:List api_Seen) (G last:Int) (l:List api_Span) (Gs:Grs):Prop where
  mp:Mp G last l
  len:(Gs.length:Int)=G
  base:Base last Gs
  home:∀ s,s∈l→lk Gs (gi s.Group) s.Shard=some (spanS jobs seen s)
  rest:∀ g id x,lk Gs g id=some x→x.State=4∨∃ s,s∈l∧gi s.Group=g∧x=spanS jobs seen s
  old:∀ s,s∈l→∀ g x,g≠gi s.Group→lk Gs g s.Shard=some x→x.Epoch<s.Epoch
  count:liveT Gs=l.length
theorem jobsR_filter {jobs:List api_Job} (h:JobsR jobs) (p:api_Job→Bool):JobsR (jobs.filter p) :=
  ⟨fun j hj=>h.1 j (List.mem_filter.1 hj).1,h.2.1.filter p,Nat.le_trans (List.length_filter_le _ _) h.2.2⟩
theorem mp_rng {G last:Int} {l:List api_Span} (h:Mp G last l) {s:api_Span} (hs:s∈l):rngB s.From s.To=true:=by
  obtain ⟨i,hi,rfl⟩:=List.getElem_of_mem hs
  exact span_rng (a:=⟨G,last,l,noP⟩) (mp_spans (a:=⟨G,last,l,noP⟩) h) i hi
theorem good_at {jobs:List api_Job} {seen:List api_Seen} (hst:Start jobs seen) (id ep st:Int) (fr ta:List UInt8) (h1:1≤id) (h2:1≤ep) (h3:ep≤1099511627776) (h4:1≤st) (h5:st≤3) (hr:rngB fr ta=true):GoodS ⟨id,ep,st,fr,ta,cutJ jobs fr ta,seen⟩:=by
  obtain ⟨q1,q2,q3,q4,q5,q6,q7⟩:=hst
  refine ⟨⟨h1,h2,h3,h4,by show st≤4;omega,hr,jobsR_filter q1 _,q4,fun e=>absurd (show st=4 from e) (by omega),fun j hj=>?_⟩,?_,q5,q6⟩
  · exact (List.mem_filter.1 hj).2
  · have:=List.length_filter_le (fun j:api_Job=>inB fr ta j.Name) jobs
    show (cutJ jobs fr ta).length≤_
    unfold cutJ;omega
theorem good_gone {id ep:Int} {fr ta:List UInt8} (h1:1≤id) (h2:1≤ep) (h3:ep≤1099511627776) (hr:rngB fr ta=true):GoodS ⟨id,ep,4,fr,ta,[],[]⟩:=by
  have hsc:seat_Check FM []=some true:=by
    unfold seat_Check
    have:seat_Check_l0 FM [] FM 0=some (.inr ()):=by
      show seat_Check_l0 FM [] (3999999+1) 0=_
      unfold seat_Check_l0;rfl
    rw [this];rfl
  refine ⟨⟨h1,h2,h3,by show (1:Int)≤4;decide,by show (4:Int)≤4;decide,hr,⟨fun j hj=>by simp at hj,List.Pairwise.nil,by simp⟩,hsc,fun _=>⟨rfl,rfl⟩,fun j hj=>by simp at hj⟩,by simp,by simp,fun r hr=>by simp at hr⟩
section
variable {jobs:List api_Job} {seen:List api_Seen} {G last:Int} {l:List api_Span} {Gs:Grs}
theorem Inv.good_span (h:Inv jobs seen G last l Gs) (hst:Start jobs seen) {s:api_Span} (hs:s∈l):GoodS (spanS jobs seen s):=by
  have:=h.mp.2.2.2.2.2.2 s hs
  exact good_at hst _ _ 1 _ _ this.1 this.2.2.1 this.2.2.2.1 (by decide) (by decide) (mp_rng h.mp hs)
theorem Inv.group (h:Inv jobs seen G last l Gs) {s:api_Span} (hs:s∈l):gi s.Group<Gs.length:=lk_in (h.home s hs)
theorem gi_len (h:Inv jobs seen G last l Gs) {g:Int} (h1:1≤g) (h2:g≤G):gi g<Gs.length:=by
  have:=h.len;unfold gi;omega
theorem gi_inj {a b:Int} (ha:1≤a) (hb:1≤b) (h:gi a=gi b):a=b:=by unfold gi at h;omega
end
structure StepW (A:api_Atlas) (Gs:Grs) (x:api_Shard) (g:Int) (o:api_Order) (A':api_Atlas) (Gs':Grs) (x':api_Shard):Prop where
  next:mover_Next FM A x=some (g,o,true)
  g1:1≤g
  g2:g≤Gs.length
  sent:∃ e s l',shard_Do FM (gr Gs (gi g)) o=some (errR e,s,l')∧Gs'=Gs.set (gi g) l' ∧
    ∃ d,mover_Heard FM A x (errR e) s=some (x',d)∧0≤d∧(d=0∧A'=A∨0<d∧atlas_Advance FM A d=some (A',0))
theorem step_mk {A A' : api_Atlas} {Gs : Grs} {x x' : api_Shard} {g : Int} {o : api_Order} (hn : mover_Next FM A x = some (g, o, true)) (g1 : 1 ≤ g) (g2 : g ≤ Gs.length) (hk : 2 ≤ o.Kind ∧ o.Kind ≤ 8)
    (hg:GoodL (gr Gs (gi g))) {s:api_Shard} {l':List api_Shard} (hd:does o (gr Gs (gi g))=some (errR 0,s,l')) {d:Int} (hh:mover_Heard FM A x (errR 0) s=some (x',d)) (hd0:0≤d) (ha:d=0∧A'=A∨0<d∧atlas_Advance FM A d=some (A',0)) :
    StepW A Gs x g o A' (Gs.set (gi g) l') x' :=
  ⟨hn,g1,g2,0,s,l',do_eq _ o hg hk hd,rfl,d,hh,hd0,ha⟩
section
variable {G last:Int} {pre post:List api_Span} {s:api_Span} {g:Int} {Gs:Grs}
theorem step_freeze (h : Mp G last (pre ++ s :: post)) (hlen : (Gs.length : Int) = G) (hg : 1 ≤ g ∧ g ≤ G) (hne : g ≠ s.Group) (he : s.Epoch ≤ 1099511627774) (x : api_Shard) (hx : ¬ (x.Id = s.Shard ∧ x.Epoch = s.Epoch))
    (hgl:GoodL (gr Gs (gi s.Group))) {S:api_Shard} (hS:lk Gs (gi s.Group) s.Shard=some S) (hSt:S.State=1∨S.State=2) (hSe:S.Epoch=s.Epoch) :
    StepW (mvA G last pre post s g) Gs x s.Group (ord 2 s.Shard s.Epoch 0) (mvA G last pre post s g) (putG Gs (gi s.Group) (inState S 2)) (inState S 2):=by
  have f:=mid_facts h
  have hn:=next_mvA_no h hg hne he x hx
  refine step_mk hn f.2.2.2.2.1 (by omega) ⟨by show (2:Int)≤2;decide,by show (2:Int)≤8;decide⟩ hgl (s:=inState S 2) (d:=0) ?_ ?_ (by decide) (.inl ⟨rfl,rfl⟩)
  · unfold does
    rw [if_pos (by show (2:Int)=2;rfl)]
    exact freeze_live (ord 2 s.Shard s.Epoch 0) (by have:=hgl.2.1;omega) hgl.1 (fun x hx=>(hgl.2.2.2 x hx).2) hS hSt hSe
  · exact (heard_ok hn (by show (1:Int)≠9;decide) (errR 0) rfl _).1 rfl
theorem step_install (h : Mp G last (pre ++ s :: post)) (hlen : (Gs.length : Int) = G) (hg : 1 ≤ g ∧ g ≤ G) (hne : g ≠ s.Group) (he : s.Epoch ≤ 1099511627774) (x : api_Shard) (hx : x.Id = s.Shard ∧ x.Epoch = s.Epoch)
    (hx2:GoodS (insO x (s.Epoch+1)).State) (hb:SB x)
    (hgl:GoodL (gr Gs (gi g))) (hl:(gr Gs (gi g)).length<64) (hlv:liveN (gr Gs (gi g))<16) (hno:∀ y,lk Gs (gi g) s.Shard=some y→y.State=4∧y.Epoch<s.Epoch+1) :
    StepW (mvA G last pre post s g) Gs x g (insO x (s.Epoch+1)) (mvB G last pre post s g 2) (putG Gs (gi g) ⟨x.Id,s.Epoch+1,3,x.From,x.To,x.Jobs,x.Seen⟩) x:=by
  have hn:=next_mvA_has h hg hne he x hx hb
  refine step_mk hn hg.1 (by omega) ⟨by show (2:Int)≤4;decide,by show (4:Int)≤8;decide⟩ hgl (s:=noS) (d:=1) ?_ ?_ (by decide) (.inr ⟨by decide,adv_mvA h hg hne he⟩)
  · unfold does
    rw [if_neg (by show ¬ (4:Int)=2;decide),if_neg (by show ¬ (4:Int)=3;decide),if_pos (by show (4:Int)=4;rfl)]
    exact install_ok (insO x (s.Epoch+1)) hl hgl.1 hx2 (by show (3:Int)≠4;decide) hlv (fun y hy=>hno y (by rw [← hx.1];exact hy))
  · exact (heard_ok hn (by show (1:Int)≠9;decide) (errR 0) rfl _).2.1 rfl
theorem step_open (h : Mp G last (pre ++ s :: post)) (hlen : (Gs.length : Int) = G) (hg : 1 ≤ g ∧ g ≤ G) (hne : g ≠ s.Group) (he : s.Epoch ≤ 1099511627774) (x : api_Shard)
    (hgl:GoodL (gr Gs (gi g))) {S:api_Shard} (hS:lk Gs (gi g) s.Shard=some S) (hSt:S.State=1∨S.State=3) (hSe:S.Epoch=s.Epoch+1) :
    StepW (mvB G last pre post s g 2) Gs x g (ord 5 s.Shard (s.Epoch+1) 0) (mvB G last pre post s g 3) (putG Gs (gi g) (inState S 1)) noS:=by
  have hn:=next_mvB2 h hg hne he x
  refine step_mk hn hg.1 (by omega) ⟨by show (2:Int)≤5;decide,by show (5:Int)≤8;decide⟩ hgl (s:=noS) (d:=2) ?_ ?_ (by decide) (.inr ⟨by decide,adv_mvB2 h hg hne he⟩)
  · unfold does
    rw [if_neg (by show ¬ (5:Int)=2;decide),if_neg (by show ¬ (5:Int)=3;decide),if_neg (by show ¬ (5:Int)=4;decide),if_pos (by show (5:Int)=5;rfl)]
    exact open_live (ord 5 s.Shard (s.Epoch+1) 0) (by have:=hgl.2.1;omega) hgl.1 hS hSt hSe
  · exact (heard_ok hn (by show (2:Int)≠9;decide) (errR 0) rfl _).2.2.1 rfl
theorem step_retire (h : Mp G last (pre ++ s :: post)) (hlen : (Gs.length : Int) = G) (hg : 1 ≤ g ∧ g ≤ G) (hne : g ≠ s.Group) (he : s.Epoch ≤ 1099511627774) (x : api_Shard)
    (hgl:GoodL (gr Gs (gi s.Group))) {S:api_Shard} (hS:lk Gs (gi s.Group) s.Shard=some S) (hSt:S.State=2∨S.State=3) (hSe:S.Epoch=s.Epoch) :
    StepW (mvB G last pre post s g 3) Gs x s.Group (ord 6 s.Shard s.Epoch 0) ⟨G,last,pre++mvSpan s g::post,noP⟩ (putG Gs (gi s.Group) (gone S)) x:=by
  have f:=mid_facts h
  have hn:=next_mvB3 h hg hne he x
  refine step_mk hn f.2.2.2.2.1 (by omega) ⟨by show (2:Int)≤6;decide,by show (6:Int)≤8;decide⟩ hgl (s:=noS) (d:=3) ?_ ?_ (by decide) (.inr ⟨by decide,adv_mvB3 h hg hne he⟩)
  · unfold does
    rw [if_neg (by show ¬ (6:Int)=2;decide),if_neg (by show ¬ (6:Int)=3;decide),if_neg (by show ¬ (6:Int)=4;decide),if_neg (by show ¬ (6:Int)=5;decide),if_pos (by show (6:Int)=6;rfl)]
    exact retire_ok (ord 6 s.Shard s.Epoch 0) (by have:=hgl.2.1;omega) hgl.1 f.1 f.2.2.1 f.2.2.2.1 hS hSt hSe
  · exact (heard_ok hn (by show (3:Int)≠9;decide) (errR 0) rfl _).2.2.2.1 rfl
theorem step_split {key : List UInt8} (h : Mp G last (pre ++ s :: post)) (hlen : (Gs.length : Int) = G) (hk : insB s key = true) (hl : (pre ++ s :: post).length < 16) (hlast : last < 1099511627776) (hlast0 : 1 ≤ last) (he : s.Epoch ≤ 1099511627774) (x : api_Shard)
    (hgl:GoodL (gr Gs (gi s.Group))) (hl64:(gr Gs (gi s.Group)).length<64) (hlv:liveN (gr Gs (gi s.Group))<16) {S:api_Shard} (hS:lk Gs (gi s.Group) s.Shard=some S) (hSt:S.State=1) (hSe:S.Epoch=s.Epoch) (hSf:S.From=s.From) (hSto:S.To=s.To)
    (hno:lk Gs (gi s.Group) (last+1)=none) :
    StepW (spA G last pre post s key) Gs x s.Group (splO s last key) ⟨G,last+1,pre++lowSpan s key::upSpan s key (last+1)::post,noP⟩
      (putG (putG Gs (gi s.Group) (lowerS S (splO s last key))) (gi s.Group) (upperS S (splO s last key))) x:=by
  have f:=mid_facts h
  have hn:=next_spA h hk hl hlast he x
  have hSg:GoodS S:=hgl.2.2.2 S (look_some hS).1
  have hr:=rng_len hSg.1.2.2.2.2.2.1
  have hk':=hk
  unfold insB at hk'
  simp only [Bool.and_eq_true,Bool.or_eq_true,beq_iff_eq] at hk'
  obtain ⟨⟨k1,k2⟩,k3⟩:=hk'
  have hkl:=nm_len k1
  have hin:shard_In FM S (splO s last key).Key=some true:=by
    rw [In_eq S _ (by omega) (by omega) (by show key.length≤_;omega),hSg.1.2.2.2.2.2.1,Bool.true_and]
    unfold inB
    rw [hSf,hSto]
    show some (nm key && !Op.bytesLess key s.From && (s.To==[] || Op.bytesLess key s.To))=_
    rw [k1,bl_asym _ _ k2]
    rcases k3 with k3 | k3
    · rw [k3];rfl
    · rw [k3];simp
  have hkne:(splO s last key).Key≠S.From:=by
    rw [hSf]
    show key≠s.From
    intro e
    rw [e,bl_irr] at k2;cases k2
  have hgr:gr (Gs.set (gi s.Group) (put (gr Gs (gi s.Group)) (lowerS S (splO s last key)))) (gi s.Group)=put (gr Gs (gi s.Group)) (lowerS S (splO s last key)):=by
    rw [gr_set (lk_in hS),if_pos rfl]
  have e:putG (putG Gs (gi s.Group) (lowerS S (splO s last key))) (gi s.Group) (upperS S (splO s last key))=Gs.set (gi s.Group) (put (put (gr Gs (gi s.Group)) (lowerS S (splO s last key))) (upperS S (splO s last key))):=by
    unfold putG
    rw [hgr,set_set]
  rw [e]
  refine step_mk hn f.2.2.2.2.1 (by omega) ⟨by show (2:Int)≤7;decide,by show (7:Int)≤8;decide⟩ hgl (s:=noS) (d:=1) ?_ ?_ (by decide) (.inr ⟨by decide,adv_spA h hk hl hlast he⟩)
  · unfold does
    rw [if_neg (by show ¬ (7:Int)=2;decide),if_neg (by show ¬ (7:Int)=3;decide),if_neg (by show ¬ (7:Int)=4;decide),if_neg (by show ¬ (7:Int)=5;decide),if_neg (by show ¬ (7:Int)=6;decide),if_pos (by show (7:Int)=7;rfl)]
    exact split_ok (splO s last key) hl64 hgl.1 hS hSt hSe ⟨by rw [hSe];show s.Epoch<s.Epoch+1;omega,by show s.Epoch+1≤_;omega⟩ (by show 1≤last+1;omega) hno hin hkne hlv hSg.2
  · exact (heard_ok hn (by show (1:Int)≠9;decide) (errR 0) rfl _).2.2.2.2.1 rfl
theorem step_merge {t : api_Span} (h : Mp G last (pre ++ s :: t :: post)) (hlen : (Gs.length : Int) = G) (hg : t.Group = s.Group) (he : s.Epoch ≤ 1099511627774) (he' : t.Epoch ≤ 1099511627774) (x : api_Shard)
    (hgl:GoodL (gr Gs (gi s.Group))) {S T:api_Shard} (hS:lk Gs (gi s.Group) s.Shard=some S) (hT:lk Gs (gi s.Group) t.Shard=some T) (hSt:S.State=1) (hTt:T.State=1) (hSe:S.Epoch=s.Epoch) (hTe:T.Epoch=t.Epoch)
    (hto:S.To≠[]) (htf:S.To=T.From) (hj:S.Jobs.length+T.Jobs.length≤256) (hjo:seat_Join FM S.Seen T.Seen=some (S.Seen,0)) :
    StepW (mgA G last pre post s t) Gs x s.Group (mrgO s t) ⟨G,last,pre++mergedSpan s t::post,noP⟩
      (putG (putG Gs (gi s.Group) (mergedS S T (mrgO s t))) (gi s.Group) (gone T)) x:=by
  have f:=mid_facts h
  have ft:1≤t.Epoch:=(h.2.2.2.2.2.2 t (by simp)).2.2.1
  have hn:=next_mgA h hg he he' x
  have hst:s.Shard≠t.Shard:=by
    have:=h.2.2.2.2.2.1
    rw [List.pairwise_append,List.pairwise_cons] at this
    exact this.2.1.1 t List.mem_cons_self
  have hgr:gr (Gs.set (gi s.Group) (put (gr Gs (gi s.Group)) (mergedS S T (mrgO s t)))) (gi s.Group)=put (gr Gs (gi s.Group)) (mergedS S T (mrgO s t)):=by
    rw [gr_set (lk_in hS),if_pos rfl]
  have e:putG (putG Gs (gi s.Group) (mergedS S T (mrgO s t))) (gi s.Group) (gone T)=Gs.set (gi s.Group) (put (put (gr Gs (gi s.Group)) (mergedS S T (mrgO s t))) (gone T)):=by
    unfold putG
    rw [hgr,set_set]
  rw [e]
  refine step_mk hn f.2.2.2.2.1 (by omega) ⟨by show (2:Int)≤8;decide,by show (8:Int)≤8;decide⟩ hgl (s:=noS) (d:=1) ?_ ?_ (by decide) (.inr ⟨by decide,adv_mgA h hg he he'⟩)
  · unfold does
    rw [if_neg (by show ¬ (8:Int)=2;decide),if_neg (by show ¬ (8:Int)=3;decide),if_neg (by show ¬ (8:Int)=4;decide),if_neg (by show ¬ (8:Int)=5;decide),if_neg (by show ¬ (8:Int)=6;decide),if_neg (by show ¬ (8:Int)=7;decide)]
    refine merge_go (mrgO s t) (by have:=hgl.2.1;omega) hgl.1 hS hT hst hSt hTt hSe hTe ?_ hto htf hj hjo
    rw [hSe,hTe]
    show (if t.Epoch > s.Epoch then t.Epoch else s.Epoch)<(if t.Epoch > s.Epoch then t.Epoch else s.Epoch)+1∧(if t.Epoch > s.Epoch then t.Epoch else s.Epoch)+1≤1099511627776
    split<;>omega
  · exact (heard_ok hn (by show (1:Int)≠9;decide) (errR 0) rfl _).2.2.2.2.2 rfl
end
end Go.T
set_option linter.unusedVariables false
set_option linter.unusedSimpArgs false
namespace Go.T
open Go Go.Ab
theorem takeWhile_filter (key : List UInt8) : ∀ (l : List api_Job), (l.Pairwise fun a b => Op.bytesLess a.Name b.Name = true) →
    (l.takeWhile fun j=>Op.bytesLess j.Name key)=l.filter (fun j=>Op.bytesLess j.Name key)∧(l.dropWhile fun j=>Op.bytesLess j.Name key)=l.filter (fun j=>!Op.bytesLess j.Name key):=by
  intro l
  induction l with
  | nil=>intro _;exact ⟨rfl,rfl⟩
  | cons x l ih =>
    intro h
    rw [List.pairwise_cons] at h
    obtain ⟨h1,h2⟩:=ih h.2
    cases hc:Op.bytesLess x.Name key with
    | true =>
      rw [List.takeWhile_cons,List.dropWhile_cons,List.filter_cons,List.filter_cons]
      simp only [hc,if_true,Bool.not_true,h1,h2]
      simp
    | false =>
      have hn:∀ y,y∈l→Op.bytesLess y.Name key=false:=by
        intro y hy
        cases hy2:Op.bytesLess y.Name key with
        | false=>rfl
        | true=>have:=bl_trans _ _ _ (h.1 y hy) hy2;rw [hc] at this;cases this
      have f1:l.filter (fun j=>Op.bytesLess j.Name key)=[]:=by
        rw [List.filter_eq_nil_iff]
        intro y hy;rw [hn y hy];simp
      have f2:l.filter (fun j=>!Op.bytesLess j.Name key)=l:=by
        rw [List.filter_eq_self]
        intro y hy;rw [hn y hy];rfl
      rw [List.takeWhile_cons,List.dropWhile_cons,List.filter_cons,List.filter_cons]
      simp only [hc,f1,f2,Bool.not_false,if_true]
      simp
theorem cut_split {jobs : List api_Job} (hj : jobs.Pairwise fun a b => Op.bytesLess a.Name b.Name = true) {fr ta key : List UInt8} (h1 : Op.bytesLess fr key = true) (h2 : ta = [] ∨ Op.bytesLess key ta = true) :
    (cutJ jobs fr ta).take (cutN (cutJ jobs fr ta) key)=cutJ jobs fr key∧(cutJ jobs fr ta).drop (cutN (cutJ jobs fr ta) key)=cutJ jobs key ta:=by
  obtain ⟨q1,q2⟩:=takeWhile_filter key (cutJ jobs fr ta) (hj.filter _)
  have hk:key≠[]:=by rintro rfl;rw [bl_nil] at h1;cases h1
  have e1:(cutJ jobs fr ta).take (cutN (cutJ jobs fr ta) key)=(cutJ jobs fr ta).takeWhile fun j=>Op.bytesLess j.Name key:=by
    unfold cutN
    exact (List.prefix_iff_eq_take.1 (List.takeWhile_prefix _)).symm
  have e2:(cutJ jobs fr ta).drop (cutN (cutJ jobs fr ta) key)=(cutJ jobs fr ta).dropWhile fun j=>Op.bytesLess j.Name key:=by
    have h:=List.takeWhile_append_dropWhile (p:=fun j:api_Job=>Op.bytesLess j.Name key) (l:=cutJ jobs fr ta)
    have h':=List.take_append_drop (cutN (cutJ jobs fr ta) key) (cutJ jobs fr ta)
    rw [e1] at h'
    exact List.append_cancel_left (h'.trans h.symm)
  rw [e1,e2,q1,q2]
  unfold cutJ
  rw [List.filter_filter,List.filter_filter]
  constructor
  · congr 1
    funext j
    unfold inB
    have hk2:(key==([]:List UInt8))=false:=by simpa using hk
    rw [hk2,Bool.false_or]
    cases c:Op.bytesLess j.Name key with
    | false=>simp
    | true =>
      have:(ta==[] || Op.bytesLess j.Name ta)=true:=by
        rcases h2 with h2 | h2
        · rw [h2];rfl
        · rw [bl_trans _ _ _ c h2];simp
      rw [this];simp
  · congr 1
    funext j
    unfold inB
    cases c:Op.bytesLess j.Name key with
    | true=>simp
    | false =>
      have:Op.bytesLess j.Name fr=false:=by
        cases d:Op.bytesLess j.Name fr with
        | false=>rfl
        | true=>have:=bl_trans _ _ _ d h1;rw [c] at this;cases this
      rw [this];simp
theorem mp_uniq {G last:Int} {l:List api_Span} (h:Mp G last l) {a b:api_Span} (ha:a∈l) (hb:b∈l) (e:a.Shard=b.Shard):a=b:=by
  obtain ⟨i,hi,rfl⟩:=List.getElem_of_mem ha
  obtain ⟨j,hj,rfl⟩:=List.getElem_of_mem hb
  have:=span_uniq (a:=⟨G,last,l,noP⟩) (mp_spans (a:=⟨G,last,l,noP⟩) h) hi hj e
  subst this;rfl
def Mono (Gs Gs':Grs):Prop:=∀ g id x,lk Gs g id=some x→∃ x',lk Gs' g id=some x'∧x.Epoch≤x'.Epoch∧(x.State=4→x'.State=4∨x.Epoch<x'.Epoch)
def Done (Gs:Grs) (g:Int) (o:api_Order):Prop:=1≤g∧g≤Gs.length ∧
  ((o.Kind=4∧GoodS o.State∧o.State.State≠4∧∃ x,lk Gs (gi g) o.State.Id=some x∧o.State.Epoch≤x.Epoch) ∨
   (o.Kind=5∧∃ x,lk Gs (gi g) o.Shard=some x∧o.Epoch≤x.Epoch) ∨
   ((o.Kind=2∨o.Kind=6∨o.Kind=7∨o.Kind=8)∧1≤o.Shard∧1≤o.Epoch∧o.Epoch≤1099511627776∧∃ x,lk Gs (gi g) o.Shard=some x∧o.Epoch≤x.Epoch∧(x.State=4∨o.Epoch<x.Epoch)))
theorem Done.mono {Gs Gs':Grs} (hm:Mono Gs Gs') (hl:Gs'.length=Gs.length) {g:Int} {o:api_Order} (h:Done Gs g o):Done Gs' g o:=by
  obtain ⟨h1,h2,h3⟩:=h
  refine ⟨h1,by omega,?_⟩
  rcases h3 with ⟨k,q1,q2,x,hx,he⟩ | ⟨k,x,hx,he⟩ | ⟨k,q1,q2,q3,x,hx,he,hs⟩
  · obtain ⟨y,hy,e1,_⟩:=hm _ _ _ hx
    exact .inl ⟨k,q1,q2,y,hy,by omega⟩
  · obtain ⟨y,hy,e1,_⟩:=hm _ _ _ hx
    exact .inr (.inl ⟨k,y,hy,by omega⟩)
  · obtain ⟨y,hy,e1,e2⟩:=hm _ _ _ hx
    refine .inr (.inr ⟨k,q1,q2,q3,y,hy,by omega,?_⟩)
    rcases hs with hs | hs
    · rcases e2 hs with q | q
      · exact .inl q
      · exact .inr (by omega)
    · exact .inr (by omega)
section
variable {jobs:List api_Job} {seen:List api_Seen} {G last:Int} {pre post:List api_Span} {s:api_Span} {Gs:Grs}
theorem mem_mid {a s t:api_Span} {pre post:List api_Span} (h:a∈pre++t::post) (hne:a≠t):a∈pre++s::post:=by
  simp only [List.mem_append,List.mem_cons] at h ⊢
  rcases h with h | h | h
  · exact .inl h
  · exact absurd h hne
  · exact .inr (.inr h)
theorem inv_move (hst : Start jobs seen) (hI : Inv jobs seen G last (pre ++ s :: post) Gs) {g : Int} (hg : 1 ≤ g ∧ g ≤ G) (hne : g ≠ s.Group) (he : s.Epoch ≤ 1099511627774) :
    Inv jobs seen G last (pre++mvSpan s g::post) (putG (putG Gs (gi s.Group) (gone (spanS jobs seen s))) (gi g) (spanS jobs seen (mvSpan s g))) ∧
    Mono Gs (putG (putG Gs (gi s.Group) (gone (spanS jobs seen s))) (gi g) (spanS jobs seen (mvSpan s g))):=by
  have f:=mid_facts hI.mp
  have hs:s∈pre++s::post:=List.mem_append_right _ List.mem_cons_self
  have h0:=hI.group hs
  have h1:gi g<Gs.length:=gi_len hI hg.1 hg.2
  have h01:gi g≠gi s.Group:=fun e=>hne (gi_inj hg.1 f.2.2.2.2.1 e)
  have hmp:=mvB_mp hI.mp hg he
  have hS:=hI.good_span hst hs
  have hlk : ∀ g' id, lk (putG (putG Gs (gi s.Group) (gone (spanS jobs seen s))) (gi g) (spanS jobs seen (mvSpan s g))) g' id =
      if g'=gi g∧id=s.Shard then some (spanS jobs seen (mvSpan s g)) else if g'=gi s.Group∧id=s.Shard then some (gone (spanS jobs seen s)) else lk Gs g' id:=by
    intro g' id
    rw [lk_putG (by rw [putG_len];exact h1),lk_putG h0]
    rfl
  have hb1:Base last (putG Gs (gi s.Group) (gone (spanS jobs seen s))):=base_put hI.base h0 (good_gone f.1 f.2.2.1 f.2.2.2.1 (mp_rng hI.mp hs)) f.1 f.2.1
  have hS':GoodS (spanS jobs seen (mvSpan s g)):=good_at hst s.Shard (s.Epoch+1) 1 s.From s.To f.1 (by omega) (by omega) (by decide) (by decide) (mp_rng hI.mp hs)
  have hdead:∀ x,lk Gs (gi g) s.Shard=some x→x.State=4:=by
    intro x hx
    rcases hI.rest _ _ _ hx with q | ⟨s2,h2,e2,rfl⟩
    · exact q
    · have:s2=s:=mp_uniq hI.mp h2 hs (look_some hx).2
      subst this
      exact absurd e2.symm h01
  refine ⟨⟨hmp,by rw [putG_len,putG_len];exact hI.len,base_put hb1 (by rw [putG_len];exact h1) hS' f.1 f.2.1,fun a ha=>?_,fun g' id x hx=>?_,fun a ha g' x hg' hx=>?_,?_⟩,fun g' id x hx=>?_⟩
  · rw [hlk]
    by_cases c:a=mvSpan s g
    · subst c
      rw [if_pos ⟨rfl,rfl⟩]
    · have ha':=mem_mid (s:=s) ha c
      have hsh:a.Shard≠s.Shard:=fun e=>c (mp_uniq hmp ha (List.mem_append_right _ List.mem_cons_self) e)
      rw [if_neg (fun e=>hsh e.2),if_neg (fun e=>hsh e.2)]
      exact hI.home a ha'
  · rw [hlk] at hx
    split at hx
    · rename_i c
      obtain rfl:=Option.some.inj hx
      exact .inr ⟨mvSpan s g,List.mem_append_right _ List.mem_cons_self,c.1.symm,rfl⟩
    · split at hx
      · obtain rfl:=Option.some.inj hx
        exact .inl rfl
      · rename_i c1 c2
        rcases hI.rest _ _ _ hx with q | ⟨s2,h2,e2,e3⟩
        · exact .inl q
        · refine .inr ⟨s2,mem_mid h2 ?_,e2,e3⟩
          rintro rfl
          have:=(look_some hx).2
          rw [e3] at this
          exact c2 ⟨e2.symm,this.symm⟩
  · rw [hlk] at hx
    by_cases c:a=mvSpan s g
    · subst c
      have hg2:g'≠gi g:=hg'
      rw [if_neg (fun e=>hg2 e.1)] at hx
      split at hx
      · obtain rfl:=Option.some.inj hx
        show s.Epoch<s.Epoch+1;omega
      · rename_i c2
        have:=hI.old s hs g' x (fun e=>c2 ⟨e,rfl⟩) hx
        show x.Epoch<s.Epoch+1;omega
    · have ha':=mem_mid (s:=s) ha c
      have hsh:a.Shard≠s.Shard:=fun e=>c (mp_uniq hmp ha (List.mem_append_right _ List.mem_cons_self) e)
      rw [if_neg (fun e=>hsh e.2),if_neg (fun e=>hsh e.2)] at hx
      exact hI.old a ha' g' x hg' hx
  · have c1:=liveT_put hI.base h0 (gone (spanS jobs seen s))
    have c2:=liveT_put hb1 (by rw [putG_len];exact h1) (spanS jobs seen (mvSpan s g))
    have e1:lk Gs (gi s.Group) (gone (spanS jobs seen s)).Id=some (spanS jobs seen s):=hI.home s hs
    have e2:one lv (lk (putG Gs (gi s.Group) (gone (spanS jobs seen s))) (gi g) (spanS jobs seen (mvSpan s g)).Id)=0:=by
      rw [lk_putG h0,if_neg (fun e=>h01 e.1)]
      show one lv (lk Gs (gi g) s.Shard)=0
      cases hq:lk Gs (gi g) s.Shard with
      | none=>rfl
      | some x=>have:=hdead x hq;simp [one,lv,this]
    rw [e1] at c1
    have o1:one lv (some (spanS jobs seen s))=1:=rfl
    have o2:one lv (some (gone (spanS jobs seen s)))=0:=rfl
    have o3:one lv (some (spanS jobs seen (mvSpan s g)))=1:=rfl
    have:=hI.count
    have hl:(pre++mvSpan s g::post).length=(pre++s::post).length:=by simp
    rw [hl]
    omega
  · rw [hlk]
    by_cases c1:g'=gi g∧id=s.Shard
    · rw [if_pos c1]
      obtain ⟨rfl,rfl⟩:=c1
      have:=hI.old s hs (gi g) x h01 hx
      refine ⟨_,rfl,by show x.Epoch≤s.Epoch+1;omega,fun _=>.inr (by show x.Epoch<s.Epoch+1;omega)⟩
    · rw [if_neg c1]
      by_cases c2:g'=gi s.Group∧id=s.Shard
      · rw [if_pos c2]
        obtain ⟨rfl,rfl⟩:=c2
        rw [hI.home s hs] at hx
        obtain rfl:=Option.some.inj hx
        exact ⟨_,rfl,Int.le_refl _,fun _=>.inl rfl⟩
      · rw [if_neg c2]
        exact ⟨x,hx,Int.le_refl _,fun e=>.inl e⟩
theorem lower_eq (hst:Start jobs seen) {key:List UInt8} (hk:insB s key=true):lowerS (spanS jobs seen s) (splO s last key)=spanS jobs seen (lowSpan s key)∧upperS (spanS jobs seen s) (splO s last key)=spanS jobs seen (upSpan s key (last+1)):=by
  unfold insB at hk
  simp only [Bool.and_eq_true,Bool.or_eq_true,beq_iff_eq] at hk
  obtain ⟨⟨k1,k2⟩,k3⟩:=hk
  obtain ⟨e1,e2⟩:=cut_split hst.1.2.1 k2 k3
  unfold lowerS upperS spanS lowSpan upSpan splO
  constructor
  · rw [← e1]
  · rw [← e2]
theorem inv_split (hst : Start jobs seen) (hI : Inv jobs seen G last (pre ++ s :: post) Gs) {key : List UInt8} (hk : insB s key = true) (hl : (pre ++ s :: post).length < 16) (hlast : last < 1099511627776) (hlast0 : 1 ≤ last) (he : s.Epoch ≤ 1099511627774) :
    Inv jobs seen G (last+1) (pre++lowSpan s key::upSpan s key (last+1)::post) (putG (putG Gs (gi s.Group) (spanS jobs seen (lowSpan s key))) (gi s.Group) (spanS jobs seen (upSpan s key (last+1)))) ∧
    Mono Gs (putG (putG Gs (gi s.Group) (spanS jobs seen (lowSpan s key))) (gi s.Group) (spanS jobs seen (upSpan s key (last+1)))):=by
  have f:=mid_facts hI.mp
  have hs:s∈pre++s::post:=List.mem_append_right _ List.mem_cons_self
  have h0:=hI.group hs
  have hmp:=mp_split hI.mp key hk hl hlast hlast0 he
  have hno:∀ g',lk Gs g' (last+1)=none:=by
    intro g'
    cases hq:lk Gs g' (last+1) with
    | none=>rfl
    | some x=>have:=(hI.base.2 _ _ _ hq).2.2;omega
  have hlow:lowSpan s key∈pre++lowSpan s key::upSpan s key (last+1)::post:=by simp
  have hup:upSpan s key (last+1)∈pre++lowSpan s key::upSpan s key (last+1)::post:=by simp
  have hlk : ∀ g' id, lk (putG (putG Gs (gi s.Group) (spanS jobs seen (lowSpan s key))) (gi s.Group) (spanS jobs seen (upSpan s key (last + 1)))) g' id =
      if g'=gi s.Group∧id=last+1 then some (spanS jobs seen (upSpan s key (last+1))) else if g'=gi s.Group∧id=s.Shard then some (spanS jobs seen (lowSpan s key)) else lk Gs g' id:=by
    intro g' id
    rw [lk_putG (by rw [putG_len];exact h0),lk_putG h0]
    rfl
  have hmem:∀ a,a∈pre++lowSpan s key::upSpan s key (last+1)::post→a=lowSpan s key∨a=upSpan s key (last+1)∨(a∈pre++s::post∧a.Shard≠s.Shard∧a.Shard≠last+1):=by
    intro a ha
    by_cases c1:a=lowSpan s key
    · exact .inl c1
    by_cases c2:a=upSpan s key (last+1)
    · exact .inr (.inl c2)
    refine .inr (.inr ⟨?_,fun e=>c1 (mp_uniq hmp ha hlow e),fun e=>c2 (mp_uniq hmp ha hup e)⟩)
    simp only [List.mem_append,List.mem_cons] at ha ⊢
    rcases ha with ha | ha | ha | ha
    · exact .inl ha
    · exact absurd ha c1
    · exact absurd ha c2
    · exact .inr (.inr ha)
  have hgl:GoodS (spanS jobs seen (lowSpan s key)):=good_at hst s.Shard (s.Epoch+1) 1 s.From key f.1 (by omega) (by omega) (by decide) (by decide) (mp_rng hmp hlow)
  have hgu:GoodS (spanS jobs seen (upSpan s key (last+1))):=good_at hst (last+1) (s.Epoch+1) 1 key s.To (by omega) (by omega) (by omega) (by decide) (by decide) (mp_rng hmp hup)
  have hb0:Base (last+1) Gs:=base_mono hI.base (by omega)
  have hb1:Base (last+1) (putG Gs (gi s.Group) (spanS jobs seen (lowSpan s key))):=base_put hb0 h0 hgl f.1 (by show s.Shard≤last+1;omega)
  refine ⟨⟨hmp,by rw [putG_len,putG_len];exact hI.len,base_put hb1 (by rw [putG_len];exact h0) hgu (by show 1≤last+1;omega) (Int.le_refl _),fun a ha=>?_,fun g' id x hx=>?_,fun a ha g' x hg' hx=>?_,?_⟩,fun g' id x hx=>?_⟩
  · rw [hlk]
    rcases hmem a ha with rfl | rfl | ⟨ha',n1,n2⟩
    · rw [if_neg (fun e=>by have:s.Shard=last+1:=e.2;omega),if_pos ⟨rfl,rfl⟩]
    · rw [if_pos ⟨rfl,rfl⟩]
    · rw [if_neg (fun e=>n2 e.2),if_neg (fun e=>n1 e.2)]
      exact hI.home a ha'
  · rw [hlk] at hx
    split at hx
    · rename_i c
      obtain rfl:=Option.some.inj hx
      exact .inr ⟨_,hup,c.1.symm,rfl⟩
    · split at hx
      · rename_i c
        obtain rfl:=Option.some.inj hx
        exact .inr ⟨_,hlow,c.1.symm,rfl⟩
      · rename_i c1 c2
        rcases hI.rest _ _ _ hx with q | ⟨s2,h2,e2,e3⟩
        · exact .inl q
        · refine .inr ⟨s2,?_,e2,e3⟩
          have hne:s2≠s:=by
            rintro rfl
            have:=(look_some hx).2
            rw [e3] at this
            exact c2 ⟨e2.symm,this.symm⟩
          simp only [List.mem_append,List.mem_cons] at h2 ⊢
          rcases h2 with h2 | h2 | h2
          · exact .inl h2
          · exact absurd h2 hne
          · exact .inr (.inr (.inr h2))
  · rw [hlk] at hx
    rcases hmem a ha with rfl | rfl | ⟨ha',n1,n2⟩
    · have hg2:g'≠gi s.Group:=hg'
      rw [if_neg (fun e=>hg2 e.1),if_neg (fun e=>hg2 e.1)] at hx
      have:=hI.old s hs g' x hg2 hx
      show x.Epoch<s.Epoch+1;omega
    · have hg2:g'≠gi s.Group:=hg'
      rw [if_neg (fun e=>hg2 e.1),if_neg (fun e=>hg2 e.1)] at hx
      have hx':lk Gs g' (last+1)=some x:=hx
      rw [hno g'] at hx';cases hx'
    · rw [if_neg (fun e=>n2 e.2),if_neg (fun e=>n1 e.2)] at hx
      exact hI.old a ha' g' x hg' hx
  · have c1:=liveT_put hb0 h0 (spanS jobs seen (lowSpan s key))
    have c2:=liveT_put hb1 (by rw [putG_len];exact h0) (spanS jobs seen (upSpan s key (last+1)))
    have e1:lk Gs (gi s.Group) (spanS jobs seen (lowSpan s key)).Id=some (spanS jobs seen s):=hI.home s hs
    have e2:one lv (lk (putG Gs (gi s.Group) (spanS jobs seen (lowSpan s key))) (gi s.Group) (spanS jobs seen (upSpan s key (last+1))).Id)=0:=by
      rw [lk_putG h0,if_neg (fun e=>by have:last+1=s.Shard:=e.2;omega)]
      show one lv (lk Gs (gi s.Group) (last+1))=0
      rw [hno];rfl
    rw [e1] at c1
    have o1:one lv (some (spanS jobs seen s))=1:=rfl
    have o2:one lv (some (spanS jobs seen (lowSpan s key)))=1:=rfl
    have o3:one lv (some (spanS jobs seen (upSpan s key (last+1))))=1:=rfl
    have:=hI.count
    have hl':(pre++lowSpan s key::upSpan s key (last+1)::post).length=(pre++s::post).length+1:=by simp;omega
    rw [hl']
    omega
  · rw [hlk]
    by_cases c1:g'=gi s.Group∧id=last+1
    · obtain ⟨rfl,rfl⟩:=c1
      rw [hno] at hx;cases hx
    · rw [if_neg c1]
      by_cases c2:g'=gi s.Group∧id=s.Shard
      · rw [if_pos c2]
        obtain ⟨rfl,rfl⟩:=c2
        rw [hI.home s hs] at hx
        obtain rfl:=Option.some.inj hx
        exact ⟨_,rfl,by show s.Epoch≤s.Epoch+1;omega,fun e=>.inr (by show s.Epoch<s.Epoch+1;omega)⟩
      · rw [if_neg c2]
        exact ⟨x,hx,Int.le_refl _,fun e=>.inl e⟩
end
end Go.T
set_option linter.unusedVariables false
set_option linter.unusedSimpArgs false
namespace Go.T
open Go Go.Ab
theorem cut_cat {jobs : List api_Job} (hj : jobs.Pairwise fun a b => Op.bytesLess a.Name b.Name = true) {fr ta key : List UInt8} (h1 : Op.bytesLess fr key = true) (h2 : ta = [] ∨ Op.bytesLess key ta = true) :
    cutJ jobs fr key++cutJ jobs key ta=cutJ jobs fr ta:=by
  obtain ⟨e1,e2⟩:=cut_split hj h1 h2
  rw [← e1,← e2,List.take_append_drop]
section
variable {jobs:List api_Job} {seen:List api_Seen} {G last:Int} {pre post:List api_Span} {s t:api_Span} {Gs:Grs}
theorem mp_next (h:Mp G last (pre++s::t::post)):nm s.To=true∧Op.bytesLess s.From s.To=true∧t.From=s.To∧(t.To=[]∨Op.bytesLess s.To t.To=true):=by
  have h1:pre.length+1<(pre++s::t::post).length:=by simp
  have u:=span_up (a:=⟨G,last,_,noP⟩) (mp_spans (a:=⟨G,last,pre++s::t::post,noP⟩) h) pre.length h1
  have e1:(pre++s::t::post)[pre.length]'(by omega)=s:=by
    have:=at_mid pre s (t::post)
    rw [List.getElem?_eq_getElem (by omega)] at this
    exact Option.some.inj this
  have e2:(pre++s::t::post)[pre.length+1]'h1=t:=by
    have:=at_mid1 pre s t post
    rw [List.getElem?_eq_getElem h1] at this
    exact Option.some.inj this
  simp only [e1,e2] at u
  refine ⟨u.1,u.2.1,u.2.2,?_⟩
  have r:=mp_rng h (s:=t) (by simp)
  unfold rngB at r
  simp only [Bool.and_eq_true,Bool.or_eq_true,beq_iff_eq,Bool.not_eq_true',Bool.or_eq_false_iff,beq_eq_false_iff_ne] at r
  rcases r.2 with r | ⟨r1,r2⟩
  · exact .inl r
  · right
    rw [← u.2.2]
    rcases bl_tri t.From t.To with q | q | q
    · exact q
    · exact absurd q.symm r2
    · rw [r1] at q;cases q
theorem merged_eq (hst:Start jobs seen) (h:Mp G last (pre++s::t::post)):mergedS (spanS jobs seen s) (spanS jobs seen t) (mrgO s t)=spanS jobs seen (mergedSpan s t):=by
  obtain ⟨_,u2,u3,u4⟩:=mp_next h
  have e:cutJ jobs s.From s.To++cutJ jobs t.From t.To=cutJ jobs s.From t.To:=by
    rw [u3]
    exact cut_cat hst.1.2.1 u2 u4
  unfold mergedS spanS mergedSpan mrgO
  rw [← e]
theorem inv_merge (hst : Start jobs seen) (hI : Inv jobs seen G last (pre ++ s :: t :: post) Gs) (hg : t.Group = s.Group) (he : s.Epoch ≤ 1099511627774) (he' : t.Epoch ≤ 1099511627774) :
    Inv jobs seen G last (pre++mergedSpan s t::post) (putG (putG Gs (gi s.Group) (spanS jobs seen (mergedSpan s t))) (gi s.Group) (gone (spanS jobs seen t))) ∧
    Mono Gs (putG (putG Gs (gi s.Group) (spanS jobs seen (mergedSpan s t))) (gi s.Group) (gone (spanS jobs seen t))):=by
  have f:=mid_facts hI.mp
  have hs:s∈pre++s::t::post:=by simp
  have ht:t∈pre++s::t::post:=by simp
  have h0:=hI.group hs
  have hmp:=mp_merge hI.mp he he'
  have ft:=hI.mp.2.2.2.2.2.2 t ht
  have hst':t.Shard≠s.Shard:=by
    have:=hI.mp.2.2.2.2.2.1
    rw [List.pairwise_append,List.pairwise_cons] at this
    exact fun e=>this.2.1.1 t List.mem_cons_self e.symm
  have hM:mergedSpan s t∈pre++mergedSpan s t::post:=by simp
  have hep:s.Epoch<(mergedSpan s t).Epoch∧(mergedSpan s t).Epoch≤1099511627776:=by
    show s.Epoch<(if t.Epoch > s.Epoch then t.Epoch else s.Epoch)+1∧(if t.Epoch > s.Epoch then t.Epoch else s.Epoch)+1≤1099511627776
    split<;>omega
  have hlk : ∀ g' id, lk (putG (putG Gs (gi s.Group) (spanS jobs seen (mergedSpan s t))) (gi s.Group) (gone (spanS jobs seen t))) g' id =
      if g'=gi s.Group∧id=t.Shard then some (gone (spanS jobs seen t)) else if g'=gi s.Group∧id=s.Shard then some (spanS jobs seen (mergedSpan s t)) else lk Gs g' id:=by
    intro g' id
    rw [lk_putG (by rw [putG_len];exact h0),lk_putG h0]
    rfl
  have hmem:∀ a,a∈pre++mergedSpan s t::post→a=mergedSpan s t∨(a∈pre++s::t::post∧a.Shard≠s.Shard∧a.Shard≠t.Shard):=by
    intro a ha
    by_cases c1:a=mergedSpan s t
    · exact .inl c1
    have hs1:a.Shard≠s.Shard:=fun e=>c1 (mp_uniq hmp ha hM e)
    have ha2:a∈pre∨a∈post:=by
      simp only [List.mem_append,List.mem_cons] at ha
      rcases ha with ha | ha | ha
      · exact .inl ha
      · exact absurd ha c1
      · exact .inr ha
    refine .inr ⟨by simp only [List.mem_append,List.mem_cons];rcases ha2 with q | q;exact .inl q;exact .inr (.inr (.inr q)),hs1,fun e=>?_⟩
    have hp:=hI.mp.2.2.2.2.2.1
    rw [List.pairwise_append,List.pairwise_cons,List.pairwise_cons] at hp
    rcases ha2 with q | q
    · exact hp.2.2 a q t (by simp) e
    · exact hp.2.1.2.1 a q e.symm
  have hgm:GoodS (spanS jobs seen (mergedSpan s t)):=good_at hst s.Shard _ 1 s.From t.To f.1 (by omega) hep.2 (by decide) (by decide) (mp_rng hmp hM)
  have hgt:GoodS (gone (spanS jobs seen t)):=good_gone ft.1 ft.2.2.1 ft.2.2.2.1 (mp_rng hI.mp ht)
  have hb1:Base last (putG Gs (gi s.Group) (spanS jobs seen (mergedSpan s t))):=base_put hI.base h0 hgm f.1 f.2.1
  refine ⟨⟨hmp,by rw [putG_len,putG_len];exact hI.len,base_put hb1 (by rw [putG_len];exact h0) hgt ft.1 ft.2.1,fun a ha=>?_,fun g' id x hx=>?_,fun a ha g' x hg' hx=>?_,?_⟩,fun g' id x hx=>?_⟩
  · rw [hlk]
    rcases hmem a ha with rfl | ⟨ha',n1,n2⟩
    · rw [if_neg (fun e=>hst' e.2.symm),if_pos ⟨rfl,rfl⟩]
    · rw [if_neg (fun e=>n2 e.2),if_neg (fun e=>n1 e.2)]
      exact hI.home a ha'
  · rw [hlk] at hx
    split at hx
    · obtain rfl:=Option.some.inj hx
      exact .inl rfl
    · split at hx
      · rename_i c
        obtain rfl:=Option.some.inj hx
        exact .inr ⟨_,hM,c.1.symm,rfl⟩
      · rename_i c1 c2
        rcases hI.rest _ _ _ hx with q | ⟨s2,h2,e2,e3⟩
        · exact .inl q
        · have hid:=(look_some hx).2
          rw [e3] at hid
          have n1:s2≠s:=by
            rintro rfl
            exact c2 ⟨e2.symm,hid.symm⟩
          have n2:s2≠t:=by
            rintro rfl
            exact c1 ⟨by rw [← e2,hg],hid.symm⟩
          refine .inr ⟨s2,?_,e2,e3⟩
          simp only [List.mem_append,List.mem_cons] at h2 ⊢
          rcases h2 with h2 | h2 | h2 | h2
          · exact .inl h2
          · exact absurd h2 n1
          · exact absurd h2 n2
          · exact .inr (.inr h2)
  · rw [hlk] at hx
    rcases hmem a ha with rfl | ⟨ha',n1,n2⟩
    · have hg2:g'≠gi s.Group:=hg'
      rw [if_neg (fun e=>hg2 e.1),if_neg (fun e=>hg2 e.1)] at hx
      have:=hI.old s hs g' x hg2 hx
      omega
    · rw [if_neg (fun e=>n2 e.2),if_neg (fun e=>n1 e.2)] at hx
      exact hI.old a ha' g' x hg' hx
  · have c1:=liveT_put hI.base h0 (spanS jobs seen (mergedSpan s t))
    have c2:=liveT_put hb1 (by rw [putG_len];exact h0) (gone (spanS jobs seen t))
    have e1:lk Gs (gi s.Group) (spanS jobs seen (mergedSpan s t)).Id=some (spanS jobs seen s):=hI.home s hs
    have e2:lk (putG Gs (gi s.Group) (spanS jobs seen (mergedSpan s t))) (gi s.Group) (gone (spanS jobs seen t)).Id=some (spanS jobs seen t):=by
      rw [lk_putG h0,if_neg (fun e=>hst' e.2)]
      have:=hI.home t ht
      rw [hg] at this
      exact this
    rw [e1] at c1
    rw [e2] at c2
    have o1:one lv (some (spanS jobs seen s))=1:=rfl
    have o2:one lv (some (spanS jobs seen (mergedSpan s t)))=1:=rfl
    have o3:one lv (some (spanS jobs seen t))=1:=rfl
    have o4:one lv (some (gone (spanS jobs seen t)))=0:=rfl
    have:=hI.count
    have hl':(pre++s::t::post).length=(pre++mergedSpan s t::post).length+1:=by simp;omega
    omega
  · rw [hlk]
    by_cases c1:g'=gi s.Group∧id=t.Shard
    · rw [if_pos c1]
      obtain ⟨rfl,rfl⟩:=c1
      have:=hI.home t ht
      rw [hg] at this
      rw [this] at hx
      obtain rfl:=Option.some.inj hx
      exact ⟨_,rfl,Int.le_refl _,fun _=>.inl rfl⟩
    · rw [if_neg c1]
      by_cases c2:g'=gi s.Group∧id=s.Shard
      · rw [if_pos c2]
        obtain ⟨rfl,rfl⟩:=c2
        rw [hI.home s hs] at hx
        obtain rfl:=Option.some.inj hx
        exact ⟨_,rfl,Int.le_of_lt hep.1,fun e=>.inr hep.1⟩
      · rw [if_neg c2]
        exact ⟨x,hx,Int.le_refl _,fun e=>.inl e⟩
end
end Go.T
set_option linter.unusedVariables false
set_option linter.unusedSimpArgs false
namespace Go.T
open Go Go.Ab
section
variable {jobs:List api_Job} {seen:List api_Seen} {G last:Int} {pre post:List api_Span} {s t:api_Span} {Gs:Grs} {g:Int}
theorem base_goodI {last:Int} {Gs:Grs} (h:Base last Gs) (h0:0≤last) (hl:last≤63) (k:Nat) (hv:liveN (gr Gs k)≤16):GoodL (gr Gs k)∧(gr Gs k).length<64:=by
  obtain ⟨n,rfl⟩:∃ n:Nat,last=n:=⟨last.toNat,by omega⟩
  exact ⟨base_good h (by omega) k hv,by have:=base_len h k;omega⟩
theorem Inv.live (h:Inv jobs seen G last (pre++s::post) Gs):liveT Gs≤16:=by
  have:=h.count
  have:=h.mp.2.2.2.1
  omega
theorem Inv.good (h:Inv jobs seen G last (pre++s::post) Gs) (hl:last≤63) (k:Nat):GoodL (gr Gs k)∧(gr Gs k).length<64:=by
  have f:=mid_facts h.mp
  have:=h.live
  have:=liveN_le Gs k
  exact base_goodI h.base (by omega) hl k (by omega)
def oF (s:api_Span):api_Order:=ord 2 s.Shard s.Epoch 0
def oI (jobs:List api_Job) (seen:List api_Seen) (s:api_Span):api_Order:=insO (inState (spanS jobs seen s) 2) (s.Epoch+1)
def oO (s:api_Span):api_Order:=ord 5 s.Shard (s.Epoch+1) 0
def oR (s:api_Span):api_Order:=ord 6 s.Shard s.Epoch 0
theorem run_move (hst : Start jobs seen) (hI : Inv jobs seen G last (pre ++ s :: post) Gs) (hl : last ≤ 63) (hg : 1 ≤ g ∧ g ≤ G) (hne : g ≠ s.Group) (he : s.Epoch ≤ 1099511627774) :
    ∃ Gs1 Gs2 Gs3 Gs4,
      (∀ x,¬ (x.Id=s.Shard∧x.Epoch=s.Epoch)→StepW (mvA G last pre post s g) Gs x s.Group (oF s) (mvA G last pre post s g) Gs1 (inState (spanS jobs seen s) 2)) ∧
      (∀ x,¬ (x.Id=s.Shard∧x.Epoch=s.Epoch)→StepW (mvA G last pre post s g) Gs1 x s.Group (oF s) (mvA G last pre post s g) Gs1 (inState (spanS jobs seen s) 2)) ∧
      StepW (mvA G last pre post s g) Gs1 (inState (spanS jobs seen s) 2) g (oI jobs seen s) (mvB G last pre post s g 2) Gs2 (inState (spanS jobs seen s) 2) ∧
      (∀ x,StepW (mvB G last pre post s g 2) Gs2 x g (oO s) (mvB G last pre post s g 3) Gs3 noS) ∧
      (∀ x,StepW (mvB G last pre post s g 3) Gs3 x s.Group (oR s) ⟨G,last,pre++mvSpan s g::post,noP⟩ Gs4 x) ∧
      Inv jobs seen G last (pre++mvSpan s g::post) Gs4∧Mono Gs Gs4∧Gs4.length=Gs.length ∧
      Done Gs4 s.Group (oF s)∧Done Gs4 g (oI jobs seen s)∧Done Gs4 g (oO s)∧Done Gs4 s.Group (oR s):=by
  have f:=mid_facts hI.mp
  have hs:s∈pre++s::post:=List.mem_append_right _ List.mem_cons_self
  have h0:=hI.group hs
  have h1:gi g<Gs.length:=gi_len hI hg.1 hg.2
  have h01:gi g≠gi s.Group:=fun e=>hne (gi_inj hg.1 f.2.2.2.2.1 e)
  have hS:=hI.good_span hst hs
  have hh:=hI.home s hs
  have hlen:=hI.len
  have hlive:=hI.live
  obtain ⟨hI4,hM4⟩:=inv_move hst hI hg hne he
  have hr:=mp_rng hI.mp hs
  have gF:GoodS (inState (spanS jobs seen s) 2):=good_at hst s.Shard s.Epoch 2 s.From s.To f.1 f.2.2.1 f.2.2.2.1 (by decide) (by decide) hr
  have gI:GoodS ⟨s.Shard,s.Epoch+1,3,s.From,s.To,cutJ jobs s.From s.To,seen⟩:=good_at hst s.Shard (s.Epoch+1) 3 s.From s.To f.1 (by omega) (by omega) (by decide) (by decide) hr
  have gO:GoodS (spanS jobs seen (mvSpan s g)):=good_at hst s.Shard (s.Epoch+1) 1 s.From s.To f.1 (by omega) (by omega) (by decide) (by decide) hr
  have hdead:∀ x,lk Gs (gi g) s.Shard=some x→x.State=4:=by
    intro x hx
    rcases hI.rest _ _ _ hx with q | ⟨s2,h2,e2,rfl⟩
    · exact q
    · have:s2=s:=mp_uniq hI.mp h2 hs (look_some hx).2
      subst this
      exact absurd e2.symm h01
  -- the four states
  have b1:Base last (putG Gs (gi s.Group) (inState (spanS jobs seen s) 2)):=base_put hI.base h0 gF f.1 f.2.1
  have n1:(putG Gs (gi s.Group) (inState (spanS jobs seen s) 2)).length=Gs.length:=putG_len _ _ _
  have k1:lk (putG Gs (gi s.Group) (inState (spanS jobs seen s) 2)) (gi s.Group) s.Shard=some (inState (spanS jobs seen s) 2):=by
    rw [lk_putG h0,if_pos ⟨rfl,rfl⟩]
  have k1':lk (putG Gs (gi s.Group) (inState (spanS jobs seen s) 2)) (gi g) s.Shard=lk Gs (gi g) s.Shard:=by
    rw [lk_putG h0,if_neg (fun e=>h01 e.1)]
  have c1:liveT (putG Gs (gi s.Group) (inState (spanS jobs seen s) 2))=liveT Gs:=by
    have c:=liveT_put hI.base h0 (inState (spanS jobs seen s) 2)
    have e:lk Gs (gi s.Group) (inState (spanS jobs seen s) 2).Id=some (spanS jobs seen s):=hh
    rw [e] at c
    have o1:one lv (some (spanS jobs seen s))=1:=rfl
    have o2:one lv (some (inState (spanS jobs seen s) 2))=1:=rfl
    omega
  generalize hG1:putG Gs (gi s.Group) (inState (spanS jobs seen s) 2)=Gs1 at b1 n1 k1 k1' c1
  have h0':gi s.Group<Gs1.length:=by omega
  have h1':gi g<Gs1.length:=by omega
  have b2:Base last (putG Gs1 (gi g) ⟨s.Shard,s.Epoch+1,3,s.From,s.To,cutJ jobs s.From s.To,seen⟩):=base_put b1 h1' gI f.1 f.2.1
  have n2:(putG Gs1 (gi g) ⟨s.Shard,s.Epoch+1,3,s.From,s.To,cutJ jobs s.From s.To,seen⟩).length=Gs.length:=by rw [putG_len,n1]
  have k2:lk (putG Gs1 (gi g) ⟨s.Shard,s.Epoch+1,3,s.From,s.To,cutJ jobs s.From s.To,seen⟩) (gi g) s.Shard=some ⟨s.Shard,s.Epoch+1,3,s.From,s.To,cutJ jobs s.From s.To,seen⟩:=by
    rw [lk_putG h1',if_pos ⟨rfl,rfl⟩]
  have k2':lk (putG Gs1 (gi g) ⟨s.Shard,s.Epoch+1,3,s.From,s.To,cutJ jobs s.From s.To,seen⟩) (gi s.Group) s.Shard=some (inState (spanS jobs seen s) 2):=by
    rw [lk_putG h1',if_neg (fun e=>h01 e.1.symm),k1]
  have c2:liveT (putG Gs1 (gi g) ⟨s.Shard,s.Epoch+1,3,s.From,s.To,cutJ jobs s.From s.To,seen⟩)≤17:=by
    have c:=liveT_put b1 h1' (⟨s.Shard,s.Epoch+1,3,s.From,s.To,cutJ jobs s.From s.To,seen⟩:api_Shard)
    have o3:one lv (some (⟨s.Shard,s.Epoch+1,3,s.From,s.To,cutJ jobs s.From s.To,seen⟩:api_Shard))=1:=rfl
    omega
  have k4 : ∀ X : api_Shard, putG (putG (putG Gs1 (gi g) X) (gi g) (spanS jobs seen (mvSpan s g))) (gi s.Group) (gone (inState (spanS jobs seen s) 2)) =
      putG (putG Gs (gi s.Group) (gone (spanS jobs seen s))) (gi g) (spanS jobs seen (mvSpan s g))∨X.Id≠s.Shard:=by
    intro X
    by_cases c:X.Id=s.Shard
    · left
      rw [putG_putG h1' _ _ c,putG_comm h01,← hG1,putG_putG h0]
      · rfl
      · rfl
    · exact .inr c
  have k4:=(k4 ⟨s.Shard,s.Epoch+1,3,s.From,s.To,cutJ jobs s.From s.To,seen⟩).resolve_right (fun e=>e rfl)
  generalize hG2:putG Gs1 (gi g) ⟨s.Shard,s.Epoch+1,3,s.From,s.To,cutJ jobs s.From s.To,seen⟩=Gs2 at b2 n2 k2 k2' c2 k4
  have h1'':gi g<Gs2.length:=by omega
  have b3:Base last (putG Gs2 (gi g) (spanS jobs seen (mvSpan s g))):=base_put b2 h1'' gO f.1 f.2.1
  have n3:(putG Gs2 (gi g) (spanS jobs seen (mvSpan s g))).length=Gs.length:=by rw [putG_len,n2]
  have k3:lk (putG Gs2 (gi g) (spanS jobs seen (mvSpan s g))) (gi g) s.Shard=some (spanS jobs seen (mvSpan s g)):=by
    rw [lk_putG h1'',if_pos ⟨rfl,rfl⟩]
  have k3':lk (putG Gs2 (gi g) (spanS jobs seen (mvSpan s g))) (gi s.Group) s.Shard=some (inState (spanS jobs seen s) 2):=by
    rw [lk_putG h1'',if_neg (fun e=>h01 e.1.symm),k2']
  have c3:liveT (putG Gs2 (gi g) (spanS jobs seen (mvSpan s g)))≤17:=by
    have c:=liveT_put b2 h1'' (spanS jobs seen (mvSpan s g))
    have e:lk Gs2 (gi g) (spanS jobs seen (mvSpan s g)).Id=some ⟨s.Shard,s.Epoch+1,3,s.From,s.To,cutJ jobs s.From s.To,seen⟩:=k2
    rw [e] at c
    have o3:one lv (some (⟨s.Shard,s.Epoch+1,3,s.From,s.To,cutJ jobs s.From s.To,seen⟩:api_Shard))=1:=rfl
    have o4:one lv (some (spanS jobs seen (mvSpan s g)))=1:=rfl
    omega
  -- the groups are right at each step
  have q1:=hI.good hl (gi s.Group)
  have q1':=base_goodI b1 (by omega) hl (gi s.Group) (by have:=liveN_le Gs1 (gi s.Group);omega)
  have p0:1≤liveN (gr Gs1 (gi s.Group)):=liveN_pos k1 (by show (2:Int)≠4;decide)
  have p1:=liveN_le2 h1' h0' h01
  have q2:=base_goodI b1 (by omega) hl (gi g) (by omega)
  have p2:1≤liveN (gr Gs2 (gi s.Group)):=liveN_pos k2' (by show (2:Int)≠4;decide)
  have p2':=liveN_le2 h1'' (show gi s.Group<Gs2.length by omega) h01
  have q3:=base_goodI b2 (by omega) hl (gi g) (by omega)
  have p3:1≤liveN (gr (putG Gs2 (gi g) (spanS jobs seen (mvSpan s g))) (gi g)):=liveN_pos k3 (by show (1:Int)≠4;decide)
  have p3':=liveN_le2 (show gi g<(putG Gs2 (gi g) (spanS jobs seen (mvSpan s g))).length by omega) (show gi s.Group<(putG Gs2 (gi g) (spanS jobs seen (mvSpan s g))).length by omega) h01
  have q4:=base_goodI b3 (by omega) hl (gi s.Group) (by omega)
  have e4:(putG (putG Gs2 (gi g) (spanS jobs seen (mvSpan s g))) (gi s.Group) (gone (inState (spanS jobs seen s) 2))).length=Gs.length:=by rw [putG_len,n3]
  refine ⟨Gs1,Gs2,putG Gs2 (gi g) (spanS jobs seen (mvSpan s g)),putG (putG Gs2 (gi g) (spanS jobs seen (mvSpan s g))) (gi s.Group) (gone (inState (spanS jobs seen s) 2)),fun x hx=>?_,fun x hx=>?_,?_,fun x=>?_,fun x=>?_,?_,?_,e4,?_⟩
  · rw [← hG1]
    exact step_freeze hI.mp hlen hg hne he x hx q1.1 hh (.inl rfl) rfl
  · have:=step_freeze hI.mp (Gs:=Gs1) (by omega) hg hne he x hx q1'.1 k1 (.inr rfl) rfl
    have e:putG Gs1 (gi s.Group) (inState (inState (spanS jobs seen s) 2) 2)=Gs1:=by
      rw [← hG1,putG_putG h0]
      · rfl
      · rfl
    rw [e] at this
    exact this
  · rw [← hG2]
    exact step_install hI.mp (Gs:=Gs1) (by omega) hg hne he (inState (spanS jobs seen s) 2) ⟨rfl,rfl⟩ gI gF.2 q2.1 q2.2 (by omega) (fun y hy=>by
      rw [k1'] at hy
      have h3:=hI.old s hs (gi g) y h01 hy
      exact ⟨hdead y hy,by omega⟩)
  · exact step_open hI.mp (Gs:=Gs2) (by omega) hg hne he x q3.1 k2 (.inr rfl) rfl
  · exact step_retire hI.mp (Gs:=putG Gs2 (gi g) (spanS jobs seen (mvSpan s g))) (by omega) hg hne he x q4.1 k3' (.inl rfl) rfl
  · rw [k4];exact hI4
  · rw [k4];exact hM4
  · have z0:lk (putG (putG Gs2 (gi g) (spanS jobs seen (mvSpan s g))) (gi s.Group) (gone (inState (spanS jobs seen s) 2))) (gi s.Group) s.Shard=some (gone (spanS jobs seen s)):=by
      rw [lk_putG (by omega),if_pos ⟨rfl,rfl⟩];rfl
    have z1:lk (putG (putG Gs2 (gi g) (spanS jobs seen (mvSpan s g))) (gi s.Group) (gone (inState (spanS jobs seen s) 2))) (gi g) s.Shard=some (spanS jobs seen (mvSpan s g)):=by
      rw [lk_putG (by omega),if_neg (fun e=>h01 e.1),k3]
    generalize putG (putG Gs2 (gi g) (spanS jobs seen (mvSpan s g))) (gi s.Group) (gone (inState (spanS jobs seen s) 2))=Gs4 at z0 z1 e4 ⊢
    have f5:=f.2.2.2.2.1
    have f6:=f.2.2.2.2.2
    refine ⟨⟨f5,by omega,.inr (.inr ⟨.inl rfl,f.1,f.2.2.1,f.2.2.2.1,_,z0,Int.le_refl _,.inl rfl⟩)⟩,
      ⟨hg.1,by omega,.inl ⟨rfl,gI,by show (3:Int)≠4;decide,_,z1,Int.le_refl _⟩⟩,
      ⟨hg.1,by omega,.inr (.inl ⟨rfl,_,z1,Int.le_refl _⟩)⟩,
      ⟨f5,by omega,.inr (.inr ⟨.inr (.inl rfl),f.1,f.2.2.1,f.2.2.2.1,_,z0,Int.le_refl _,.inl rfl⟩)⟩⟩
theorem run_split (hst : Start jobs seen) (hI : Inv jobs seen G last (pre ++ s :: post) Gs) (hl : last ≤ 62) {key : List UInt8} (hk : insB s key = true) (hl16 : (pre ++ s :: post).length < 16) (he : s.Epoch ≤ 1099511627774) :
    ∃ Gs',(∀ x,StepW (spA G last pre post s key) Gs x s.Group (splO s last key) ⟨G,last+1,pre++lowSpan s key::upSpan s key (last+1)::post,noP⟩ Gs' x) ∧
      Inv jobs seen G (last+1) (pre++lowSpan s key::upSpan s key (last+1)::post) Gs'∧Mono Gs Gs'∧Gs'.length=Gs.length∧Done Gs' s.Group (splO s last key):=by
  have f:=mid_facts hI.mp
  have hs:s∈pre++s::post:=List.mem_append_right _ List.mem_cons_self
  have h0:=hI.group hs
  have hlen:=hI.len
  obtain ⟨hI4,hM4⟩:=inv_split hst hI hk hl16 (by omega) (by omega) he
  obtain ⟨e1,e2⟩:=lower_eq (jobs:=jobs) (seen:=seen) (last:=last) hst hk
  have q:=hI.good (by omega) (gi s.Group)
  have hcount:=hI.count
  have hlv:=liveN_le Gs (gi s.Group)
  have hno:lk Gs (gi s.Group) (last+1)=none:=by
    cases hq:lk Gs (gi s.Group) (last+1) with
    | none=>rfl
    | some x=>have:=(hI.base.2 _ _ _ hq).2.2;omega
  refine ⟨_,fun x=>?_,hI4,hM4,by rw [putG_len,putG_len],?_⟩
  · have:=step_split (Gs:=Gs) hI.mp hlen hk hl16 (by omega) (by omega) he x q.1 q.2 (by omega) (hI.home s hs) rfl rfl rfl rfl hno
    rw [e1,e2] at this
    exact this
  · have f5:=f.2.2.2.2.1
    have f6:=f.2.2.2.2.2
    refine ⟨f5,by rw [putG_len,putG_len];omega,.inr (.inr ⟨.inr (.inr (.inl rfl)),f.1,f.2.2.1,f.2.2.2.1,spanS jobs seen (lowSpan s key),?_,by show s.Epoch≤s.Epoch+1;omega,.inr (by show s.Epoch<s.Epoch+1;omega)⟩)⟩
    show lk _ _ s.Shard=_
    rw [lk_putG (by rw [putG_len];exact h0),if_neg (fun e=>by have:s.Shard=last+1:=e.2;omega),lk_putG h0,if_pos ⟨rfl,rfl⟩]
theorem run_merge (hst : Start jobs seen) (hI : Inv jobs seen G last (pre ++ s :: t :: post) Gs) (hl : last ≤ 63) (hg : t.Group = s.Group) (he : s.Epoch ≤ 1099511627774) (he' : t.Epoch ≤ 1099511627774) :
    ∃ Gs',(∀ x,StepW (mgA G last pre post s t) Gs x s.Group (mrgO s t) ⟨G,last,pre++mergedSpan s t::post,noP⟩ Gs' x) ∧
      Inv jobs seen G last (pre++mergedSpan s t::post) Gs'∧Mono Gs Gs'∧Gs'.length=Gs.length∧Done Gs' s.Group (mrgO s t):=by
  have f:=mid_facts hI.mp
  have hs:s∈pre++s::t::post:=by simp
  have ht:t∈pre++s::t::post:=by simp
  have h0:=hI.group hs
  have hlen:=hI.len
  obtain ⟨hI4,hM4⟩:=inv_merge hst hI hg he he'
  have e1:=merged_eq hst hI.mp
  have q:=hI.good hl (gi s.Group)
  have hT:=hI.home t ht
  rw [hg] at hT
  obtain ⟨u1,u2,u3,u4⟩:=mp_next hI.mp
  have hst':s.Shard≠t.Shard:=by
    have:=hI.mp.2.2.2.2.2.1
    rw [List.pairwise_append,List.pairwise_cons] at this
    exact this.2.1.1 t List.mem_cons_self
  have hjl:∀ a b,(cutJ jobs a b).length≤16:=fun a b=>by
    have:=List.length_filter_le (fun j:api_Job=>inB a b j.Name) jobs
    have:=hst.2.1
    unfold cutJ;omega
  refine ⟨_,fun x=>?_,hI4,hM4,by rw [putG_len,putG_len],?_⟩
  · have:=step_merge (Gs:=Gs) hI.mp hlen hg he he' x q.1 (hI.home s hs) hT rfl rfl rfl rfl (nm_ne u1) u3.symm (by
      have a1:=hjl s.From s.To
      have a2:=hjl t.From t.To
      show (cutJ jobs s.From s.To).length+(cutJ jobs t.From t.To).length≤256
      omega) hst.2.2.2.2.2.2
    rw [e1] at this
    exact this
  · have f5:=f.2.2.2.2.1
    have f6:=f.2.2.2.2.2
    have hep:s.Epoch<(mergedSpan s t).Epoch:=by
      show s.Epoch<(if t.Epoch > s.Epoch then t.Epoch else s.Epoch)+1
      split<;>omega
    refine ⟨f5,by rw [putG_len,putG_len];omega,.inr (.inr ⟨.inr (.inr (.inr rfl)),f.1,f.2.2.1,f.2.2.2.1,spanS jobs seen (mergedSpan s t),?_,by show s.Epoch≤(mergedSpan s t).Epoch;omega,.inr hep⟩)⟩
    show lk _ _ s.Shard=_
    rw [lk_putG (by rw [putG_len];exact h0),if_neg (fun e=>hst' e.2),lk_putG h0,if_pos ⟨rfl,rfl⟩]
end
end Go.T
set_option linter.unusedVariables false
set_option linter.unusedSimpArgs false
namespace Go.T
open Go Go.Ab
theorem Inv.good' {jobs:List api_Job} {seen:List api_Seen} {G last:Int} {l:List api_Span} {Gs:Grs} (h:Inv jobs seen G last l Gs) (h0:0≤last) (hl:last≤63) (k:Nat):GoodL (gr Gs k)∧(gr Gs k).length<64:=by
  have c:=h.count
  have:=h.mp.2.2.2.1
  have:=liveN_le Gs k
  exact base_goodI h.base h0 hl k (by omega)
theorem done_same {jobs : List api_Job} {seen : List api_Seen} {G last : Int} {l : List api_Span} {Gs : Grs} (hI : Inv jobs seen G last l Gs) (h0 : 0 ≤ last) (hl : last ≤ 63) {g : Int} {o : api_Order} (h : Done Gs g o) :
    ∃ e s,shard_Do FM (gr Gs (gi g)) o=some (errR e,s,gr Gs (gi g)):=by
  obtain ⟨hg,hlen⟩:=hI.good' h0 hl (gi g)
  have hsrt:=hg.1
  have hsb:∀ s,s∈gr Gs (gi g)→SB s:=fun s hs=>(hg.2.2.2 s hs).2
  have hst:∀ id x,look (gr Gs (gi g)) id=some x→x.State=4∨x.State=1:=by
    intro id x hx
    rcases hI.rest (gi g) id x hx with q | ⟨s2,_,_,rfl⟩
    · exact .inl q
    · exact .inr rfl
  obtain ⟨_,_,h3⟩:=h
  rcases h3 with ⟨k,q1,q2,x,hx,he⟩ | ⟨k,x,hx,he⟩ | ⟨k,q1,q2,q3,x,hx,he,hs⟩
  · obtain ⟨e,hd⟩:=install_no o (l:=gr Gs (gi g)) (by omega) hsrt q1 q2 hx he
    refine ⟨e,noS,do_eq _ o hg (by omega) ?_⟩
    unfold does
    rw [if_neg (by omega),if_neg (by omega),if_pos k]
    exact hd
  · obtain ⟨e,hd⟩:=open_no o (l:=gr Gs (gi g)) (by omega) hsrt (fun s hs=>hst _ s hs)
    refine ⟨e,noS,do_eq _ o hg (by omega) ?_⟩
    unfold does
    rw [if_neg (by omega),if_neg (by omega),if_neg (by omega),if_pos k]
    exact hd
  · have hall:∀ s,look (gr Gs (gi g)) o.Shard=some s→s.State=4∨s.Epoch≠o.Epoch:=by
      intro s hs2
      have:some s=some x:=by rw [← hs2];exact hx
      obtain rfl:=Option.some.inj this
      rcases hs with hs | hs
      · exact .inl hs
      · exact .inr (by omega)
    rcases k with k | k | k | k
    · obtain ⟨e,hd⟩:=freeze_no o (l:=gr Gs (gi g)) (by omega) hsrt hsb hall
      refine ⟨e,noS,do_eq _ o hg (by omega) ?_⟩
      unfold does
      rw [if_pos k]
      exact hd
    · obtain ⟨e,hd⟩:=retire_no o (l:=gr Gs (gi g)) (by omega) hsrt q1 q2 q3 hx (by
        rcases hs with hs | hs
        · exact .inl ⟨hs,he⟩
        · by_cases c:x.State=4
          · exact .inl ⟨c,he⟩
          · exact .inr ⟨c,by omega⟩)
      refine ⟨e,noS,do_eq _ o hg (by omega) ?_⟩
      unfold does
      rw [if_neg (by omega),if_neg (by omega),if_neg (by omega),if_neg (by omega),if_pos k]
      exact hd
    · obtain ⟨e,hd⟩:=split_no o (l:=gr Gs (gi g)) (by omega) hsrt hall
      refine ⟨e,noS,do_eq _ o hg (by omega) ?_⟩
      unfold does
      rw [if_neg (by omega),if_neg (by omega),if_neg (by omega),if_neg (by omega),if_neg (by omega),if_pos k]
      exact hd
    · obtain ⟨e,hd⟩:=merge_no o (l:=gr Gs (gi g)) (by omega) hsrt hall
      refine ⟨e,noS,do_eq _ o hg (by omega) ?_⟩
      unfold does
      rw [if_neg (by omega),if_neg (by omega),if_neg (by omega),if_neg (by omega),if_neg (by omega),if_neg (by omega)]
      exact hd
end Go.T
