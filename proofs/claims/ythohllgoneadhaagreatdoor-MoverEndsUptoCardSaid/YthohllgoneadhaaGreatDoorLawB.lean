import Derived.Test.YthohllgoneadhaaGreatDoorLawA
set_option linter.unusedVariables false
set_option linter.unusedSimpArgs false
namespace Go.T
open Go Go.Ab
def plc (l:List Zab) (k:Int):Int:=match l.findIdx? (fun s=>s.Shard==k) with | some i=>(i:Int) | none=>-1
theorem Zja (l:List Zab) (k:Int):(∃ (j:Nat) (h:j<l.length),l[j].Shard=k∧(∀ i (hi:i<j),l[i].Shard≠k)∧plc l k=j)∨((∀ i (h:i<l.length),l[i].Shard≠k)∧plc l k = -1):=by
  unfold plc
  cases h:l.findIdx? (fun s=>s.Shard==k) with
  | none =>
    right
    rw [List.findIdx?_eq_none_iff] at h
    exact ⟨fun i hi=>by have:=h _ (List.getElem_mem hi);simpa using this,rfl⟩
  | some j =>
    left
    rw [List.findIdx?_eq_some_iff_getElem] at h
    obtain ⟨hj,h1,h2⟩:=h
    exact ⟨j,hj,by simpa using h1,fun i hi=>by have:=h2 i hi;simpa using this,rfl⟩
theorem Zgc {l:List Zab} {k:Int} {j:Nat} (h:j<l.length) (h1:l[j].Shard=k) (h2:∀ i (hi:i<j),l[i].Shard≠k):plc l k=j:=by
  rcases Zja l k with ⟨j',h',a,b,c⟩ | ⟨a,b⟩
  · rcases Nat.lt_trichotomy j j' with q | q | q
    · exact absurd h1 (b j q)
    · rw [c,q]
    · exact absurd a (h2 j' q)
  · exact absurd h1 (a j h)
theorem Zjb {l:List Zab} {k:Int} (h:∀ i (h:i<l.length),l[i].Shard≠k):plc l k = -1:=by
  rcases Zja l k with ⟨j',h',a,b,c⟩ | ⟨a,b⟩
  · exact absurd a (h j' h')
  · exact b
def at_sh (l:List Zab) (k:Int) (i:Nat):Bool:=match l[i]? with | some s=>s.Shard==k | none=>false
theorem Ze7 {l:List Zab} {k:Int} {i:Nat} (h:i<l.length):at_sh l k i=(l[i].Shard==k):=by simp [at_sh,h]
theorem Zgx {F:Nat} {a:Zag} {k:Int} (hs:a.Spans.length≤1048576) (hF:1048577≤F):Zco F a k=some (plc a.Spans k):=by
  have hl:=ZhM (fun n i=>ZaA F a.Spans k n i) a.Spans.length (at_sh a.Spans k)
    (fun n i hi=>by
      simp only [ZaA,ZeC]
      have e1:(decide ((i:Int)<((List.length a.Spans:Nat):Int)))=true:=by simp [hi]
      have e2:decide ((0:Int)≤(i:Int))=true:=by simp
      simp only [e1,e2,cond_true,Int.toNat_natCast,List.getElem?_eq_getElem hi,Option.bind_some]
      rw [Zb9 (by omega) (by omega)]
      rw [Ze7 hi])
    (fun n i hi=>by
      simp only [ZaA]
      have e1:(decide ((i:Int)<((List.length a.Spans:Nat):Int)))=false:=by simp;omega
      simp only [e1,cond_false]) F 0 (by omega)
  unfold Zco Zbf
  simp only [Int.natCast_zero] at hl
  rcases hl with ⟨j,_,h2,h3,h4,h5⟩ | ⟨h3,h5⟩
  · rw [h5,Zgc h2 (by rw [Ze7 h2] at h3;simpa using h3) (fun i hi e=>by have:=h4 i (Nat.zero_le _) hi;rw [Ze7 (by omega)] at this;simp [e] at this)];rfl
  · rw [h5,Zjb (fun i hi e=>by have:=h3 i (Nat.zero_le _) hi;rw [Ze7 hi] at this;simp [e] at this)];rfl
def up (s:Zab):Bool:=nm s.To && !(Op.bytesLess s.To s.From || s.To==s.From)
def upAt (l:List Zab) (i:Nat):Bool:=match l[i]?,l[i+1]? with | some s,some t=>up s && t.From==s.To | _,_=>true
theorem Zn4 {F : Nat} {l : List Zab} (hs : l.length ≤ 1048576) (hstr : ∀ s, s ∈ l → s.To.length ≤ 1048576) (hF : 1048577 ≤ F) :
    ∃ b,Zet F l=some b∧(b=true↔(1≤l.length∧l.length≤16∧(∀ h:0<l.length,l[0].From=[])∧(∀ h:0<l.length,(l[l.length - 1]'(by omega)).To=[]) ∧
      ∀ i,i<l.length - 1→upAt l i=true)):=by
  unfold Zet
  by_cases h1:l.length=0
  · have e1:decide (((l.length:Nat):Int)<1)=true:=decide_eq_true (by omega)
    simp only [e1,cond_true,Option.bind_some]
    exact ⟨false,rfl,by simp;omega⟩
  have e1:decide (((l.length:Nat):Int)<1)=false:=decide_eq_false (by omega)
  by_cases h2:16<l.length
  · have e2:decide ((16:Int)<((l.length:Nat):Int))=true:=decide_eq_true (by omega)
    simp only [e1,e2,cond_true,cond_false,Option.bind_some]
    exact ⟨false,rfl,by simp;omega⟩
  have e2:decide ((16:Int)<((l.length:Nat):Int))=false:=decide_eq_false (by omega)
  have hw:IntKind.wrap IntKind.i64 ((l.length:Int) - 1)=((l.length - 1:Nat):Int):=by rw [Zb9 (by omega) (by omega)];omega
  have g0:l[Int.toNat 0]? = some (l[0]'(by omega)):=List.getElem?_eq_getElem (by omega)
  have gl:l[l.length - 1]? = some (l[l.length - 1]'(by omega)):=List.getElem?_eq_getElem (by omega)
  have e3:decide ((0:Int)≤((l.length - 1:Nat):Int))=true:=decide_eq_true (by omega)
  have e4:decide (0≤l.length - 1)=true:=decide_eq_true (by omega)
  have e5:decide (l.length - 1≤l.length)=true:=decide_eq_true (by omega)
  simp only [e1,e2,cond_false,g0,Option.bind_some,List.length_map,hw,e3,e4,e5,cond_true,Int.toNat_natCast,gl]
  cases h3:(l[0]'(by omega)).From==[] with
  | false =>
    simp only [Bool.not_false,cond_true,Option.bind_some]
    refine ⟨false,rfl,?_⟩
    have:(l[0]'(by omega)).From≠[]:=by simpa using h3
    simp only [Bool.false_eq_true,false_iff]
    exact fun H=>this (H.2.2.1 (by omega))
  | true =>
    simp only [Bool.not_true,cond_false,Option.bind_some]
    have h3':(l[0]'(by omega)).From=[]:=by simpa using h3
    cases h4:(l[l.length - 1]'(by omega)).To==[] with
    | false =>
      simp only [Bool.not_false,cond_true]
      refine ⟨false,rfl,?_⟩
      have:(l[l.length - 1]'(by omega)).To≠[]:=by simpa using h4
      simp only [Bool.false_eq_true,false_iff]
      exact fun H=>this (H.2.2.2.1 (by omega))
    | true =>
      have h4':(l[l.length - 1]'(by omega)).To=[]:=by simpa using h4
      simp only [Bool.not_true,cond_false]
      have hl:=Zit (fun n i=>Zcp F l n i) (l.length - 1) (upAt l) false
        (fun n i hi=>by
          simp only [Zcp,cut,List.length_take,List.length_map,hw,Int.toNat_natCast]
          have f1:decide ((i:Int)<((min (l.length - 1) l.length:Nat):Int))=true:=decide_eq_true (by omega)
          have f2:decide ((0:Int)≤(i:Int))=true:=decide_eq_true (by omega)
          have f3:(List.take (l.length - 1) l)[i]? = some (l[i]'(by omega)):=by rw [List.getElem?_take];simp [hi,show i<l.length by omega]
          have f4:IntKind.wrap IntKind.i64 ((i:Int)+1)=((i+1:Nat):Int):=by rw [Zb9 (by omega) (by omega)];omega
          have f5:decide ((0:Int)≤((i+1:Nat):Int))=true:=decide_eq_true (by omega)
          have f6:l[i+1]? = some (l[i+1]'(by omega)):=List.getElem?_eq_getElem (by omega)
          have f7:l[i]? = some (l[i]'(by omega)):=List.getElem?_eq_getElem (by omega)
          have f8:upAt l i=(up (l[i]'(by omega)) && (l[i+1]'(by omega)).From==(l[i]'(by omega)).To):=by simp only [upAt,f6,f7]
          simp only [f1,f2,f3,f4,f5,f6,f8,cond_true,Option.bind_some,Int.toNat_natCast,Zd3 (hstr _ (List.getElem_mem _)) hF,up]
          cases nm (l[i]'(by omega)).To<;>cases (Op.bytesLess (l[i]'(by omega)).To (l[i]'(by omega)).From || (l[i]'(by omega)).To==(l[i]'(by omega)).From) <;>
            cases ((l[i+1]'(by omega)).From==(l[i]'(by omega)).To)<;>simp)
        (fun n i hi=>by
          simp only [Zcp,cut,List.length_take,List.length_map,hw,Int.toNat_natCast]
          have f1:decide ((i:Int)<((min (l.length - 1) l.length:Nat):Int))=false:=decide_eq_false (by omega)
          simp only [f1,cond_false]) F 0 (by omega)
      simp only [Int.natCast_zero] at hl
      rcases hl with ⟨ha,hl⟩ | ⟨⟨j,_,hj,ha⟩,hl⟩
      · rw [hl]
        refine ⟨true,rfl,?_⟩
        simp only [true_iff]
        exact ⟨by omega,by omega,fun _=>h3',fun _=>h4',fun i hi=>ha i (Nat.zero_le _) hi⟩
      · rw [hl]
        refine ⟨false,rfl,?_⟩
        simp only [Bool.false_eq_true,false_iff]
        intro H
        rw [H.2.2.2.2 j hj] at ha;cases ha
def own (a:Zag) (i:Nat):Bool:=match a.Spans[i]? with
  | some s=>!decide (s.Shard<1) && !decide (a.Last<s.Shard) && (plc a.Spans s.Shard==(i:Int)) && !decide (s.Epoch<1) && !decide (1099511627776<s.Epoch) && !decide (s.Group<1) && !decide (a.Groups<s.Group)
  | none=>true
def Zdh (a:Zag):Prop :=
  ¬ a.Groups<1∧¬ 8<a.Groups∧¬ 1099511627776<a.Last∧(1≤a.Spans.length∧a.Spans.length≤16∧(∀ h:0<a.Spans.length,a.Spans[0].From=[]) ∧
    (∀ h:0<a.Spans.length,(a.Spans[a.Spans.length - 1]'(by omega)).To=[])∧∀ i,i<a.Spans.length - 1→upAt a.Spans i=true)∧∀ i,i<a.Spans.length→own a i=true
theorem Zl8 {F : Nat} {a : Zag} (hs : a.Spans.length ≤ 1048576) (hstr : ∀ s, s ∈ a.Spans → s.To.length ≤ 1048576) (hF : 1048577 ≤ F) :
    (Zdh a∧Zbb F a=ZbR F a)∨(¬ Zdh a∧Zbb F a=some false):=by
  unfold Zbb
  by_cases h1:a.Groups<1
  · right
    refine ⟨fun H=>H.1 h1,?_⟩
    simp [h1]
  by_cases h2:8<a.Groups
  · right
    refine ⟨fun H=>H.2.1 h2,?_⟩
    simp [h1,h2]
  by_cases h3:1099511627776<a.Last
  · right
    refine ⟨fun H=>H.2.2.1 h3,?_⟩
    simp [h1,h2,h3]
  obtain ⟨b,hc,hb⟩:=Zn4 (F:=F) hs hstr hF
  have e1:decide (a.Groups<1)=false:=decide_eq_false h1
  have e2:decide ((8:Int)<a.Groups)=false:=decide_eq_false h2
  have e3:decide ((1099511627776:Int)<a.Last)=false:=decide_eq_false h3
  simp only [e1,e2,e3,cond_false,hc,Option.bind_some]
  cases b with
  | false =>
    right
    refine ⟨fun H=>?_,rfl⟩
    have:=hb.2 H.2.2.2.1;cases this
  | true =>
    simp only [Bool.not_true,cond_false]
    have hl:=Zit (fun n i=>ZcI F a n i) a.Spans.length (own a) false
      (fun n i hi=>by
        simp only [ZcI]
        have f1:decide ((i:Int)<((a.Spans.length:Nat):Int))=true:=decide_eq_true (by omega)
        have f2:decide ((0:Int)≤(i:Int))=true:=decide_eq_true (by omega)
        have f4:IntKind.wrap IntKind.i64 ((i:Int)+1)=(i:Int)+1:=by rw [Zb9 (by omega) (by omega)]
        simp only [f1,f2,f4,own,List.getElem?_eq_getElem hi,cond_true,Option.bind_some,Int.toNat_natCast,Zgx hs hF,bne]
        generalize decide (a.Spans[i].Shard<1)=b1
        generalize decide (a.Last<a.Spans[i].Shard)=b2
        generalize (plc a.Spans a.Spans[i].Shard==(i:Int))=b3
        generalize decide (a.Spans[i].Epoch<1)=b4
        generalize decide (1099511627776<a.Spans[i].Epoch)=b5
        generalize decide (a.Spans[i].Group<1)=b6
        generalize decide (a.Groups<a.Spans[i].Group)=b7
        cases b1<;>cases b2<;>cases b3<;>cases b4<;>cases b5<;>cases b6<;>cases b7<;>rfl)
      (fun n i hi=>by
        simp only [ZcI]
        have f1:decide ((i:Int)<((a.Spans.length:Nat):Int))=false:=decide_eq_false (by omega)
        simp only [f1,cond_false]) F 0 (by omega)
    simp only [Int.natCast_zero] at hl
    rcases hl with ⟨hg,hl⟩ | ⟨⟨j,_,hj,hg⟩,hl⟩
    · left
      rw [hl]
      refine ⟨⟨h1,h2,h3,hb.1 rfl,fun i hi=>hg i (Nat.zero_le _) hi⟩,?_⟩
      simp only [Option.bind_some,Sum.elim_inr]
      cases ZbR F a<;>rfl
    · right
      rw [hl]
      refine ⟨fun H=>?_,rfl⟩
      rw [H.2.2.2.2 j hj] at hg;cases hg
end Go.T
set_option linter.unusedVariables false
set_option linter.unusedSimpArgs false
namespace Go.T
open Go Go.Ab
def noP:Zap:=⟨0,0,0,0,0,0,0,[]⟩
theorem Zg6 {a : Zag} (h : Zdh a) (i : Nat) (hi : i < a.Spans.length) :
    1≤(a.Spans[i]).Shard∧(a.Spans[i]).Shard≤a.Last∧plc a.Spans (a.Spans[i]).Shard=i∧1≤(a.Spans[i]).Epoch∧(a.Spans[i]).Epoch≤1099511627776∧1≤(a.Spans[i]).Group∧(a.Spans[i]).Group≤a.Groups:=by
  have:=h.2.2.2.2 i hi
  unfold own at this
  rw [List.getElem?_eq_getElem hi] at this
  simp only [Bool.and_eq_true,Bool.not_eq_true',decide_eq_false_iff_not,beq_iff_eq] at this
  obtain ⟨⟨⟨⟨⟨⟨h1,h2⟩,h3⟩,h4⟩,h5⟩,h6⟩,h7⟩:=this
  exact ⟨by omega,by omega,h3,by omega,by omega,by omega,by omega⟩
theorem Zm5 {a:Zag} (h:Zdh a) {i j:Nat} (hi:i<a.Spans.length) (hj:j<a.Spans.length) (e:(a.Spans[i]).Shard=(a.Spans[j]).Shard):i=j:=by
  have h1:=(Zg6 h i hi).2.2.1
  have h2:=(Zg6 h j hj).2.2.1
  rw [e,h2] at h1
  omega
theorem Zi1 {a:Zag} (h:Zdh a) (i:Nat) (hi:i+1<a.Spans.length):nm (a.Spans[i]).To=true∧Op.bytesLess (a.Spans[i]).From (a.Spans[i]).To=true∧(a.Spans[i+1]).From=(a.Spans[i]).To:=by
  have:=h.2.2.2.1.2.2.2.2 i (by omega)
  unfold upAt up at this
  rw [List.getElem?_eq_getElem hi,List.getElem?_eq_getElem (show i<a.Spans.length by omega)] at this
  simp only [Bool.and_eq_true,beq_iff_eq,Bool.not_eq_true',Bool.or_eq_false_iff,beq_eq_false_iff_ne] at this
  obtain ⟨⟨h1,h2,h3⟩,h4⟩:=this
  refine ⟨h1,?_,h4⟩
  rcases Zof (a.Spans[i]).From (a.Spans[i]).To with q | q | q
  · exact q
  · exact absurd q.symm h3
  · rw [h2] at q;cases q
theorem Zml {a:Zag} (h:Zdh a) (h0:0<a.Spans.length):(a.Spans[0]).From=[]:=h.2.2.2.1.2.2.1 h0
theorem Zm6 {a:Zag} (h:Zdh a) (i:Nat) (hi:i+1=a.Spans.length):(a.Spans[i]).To=[]:=by
  have:=h.2.2.2.1.2.2.2.1 (by omega)
  have e:i=a.Spans.length - 1:=by omega
  subst e;exact this
theorem Zpz {s:List UInt8} (h:nm s=true):keyB s=true:=by unfold keyB;rw [h,Bool.or_true]
theorem nm_ne {s:List UInt8} (h:nm s=true):s≠[]:=by rintro rfl;simp [nm] at h
theorem ZlE {a:Zag} (h:Zdh a) (i:Nat) (hi:i<a.Spans.length):rngB (a.Spans[i]).From (a.Spans[i]).To=true:=by
  have hf:keyB (a.Spans[i]).From=true:=by
    cases i with
    | zero=>rw [Zml h hi];rfl
    | succ i=>rw [(Zi1 h i hi).2.2];exact Zpz (Zi1 h i hi).1
  by_cases hl:i+1<a.Spans.length
  · obtain ⟨h1,h2,_⟩:=Zi1 h i hl
    unfold rngB
    rw [hf,Zpz h1,Zjy _ _ h2]
    have:((a.Spans[i]).To==(a.Spans[i]).From)=false:=by
      rw [beq_eq_false_iff_ne]
      intro e;rw [e,ZkB] at h2;cases h2
    rw [this];simp
  · have:=Zm6 h i (by omega)
    unfold rngB
    rw [hf,this];rfl
theorem ZjL {a:Zag} (h:Zdh a):a.Spans.length≤16∧∀ s,s∈a.Spans→s.From.length≤16∧s.To.length≤16:=by
  refine ⟨h.2.2.2.1.2.1,fun s hs=>?_⟩
  obtain ⟨i,hi,rfl⟩:=List.getElem_of_mem hs
  exact ZkQ (ZlE h i hi)
theorem ZdD {a:Zag} (h:Zdh a):Zbb FM a=ZbR FM a:=by
  obtain ⟨h1,h2⟩:=ZjL h
  rcases Zl8 (F:=FM) (a:=a) (by omega) (fun s hs=>by have:=(h2 s hs).2;omega) (by decide) with ⟨_,e⟩ | ⟨e,_⟩
  · exact e
  · exact absurd h e
theorem ZdN {a:Zag} (h:a.Spans.length≤16) (k:Int):Zco FM a k=some (plc a.Spans k):=Zgx (by omega) (by decide)
theorem Zkv {a:Zag} (h:a.Spans.length≤16):Zeu FM a=some a:=by
  unfold Zeu ZaZ
  rw [decide_eq_true (by simp only [LIM];omega)];rfl
theorem ZhN {a:Zag} (h:Zdh a) (hp:a.Plan=noP):Zbb FM a=some true:=by
  rw [ZdD h]
  unfold ZbR
  rw [hp];rfl
def insB (s:Zab) (key:List UInt8):Bool:=nm key && Op.bytesLess s.From key && (s.To==[] || Op.bytesLess key s.To)
theorem Zkd (s:Zab) (key:List UInt8) (h:key.length≤1048576):ZdV FM s key=some (insB s key):=by
  unfold ZdV insB
  rw [Zd3 h (by decide)]
  have e:(!(Op.bytesLess key s.From || key==s.From))=Op.bytesLess s.From key:=by
    rw [Bool.eq_iff_iff]
    simp only [Bool.not_eq_true',Bool.or_eq_false_iff,beq_eq_false_iff_ne]
    constructor
    · rintro ⟨h1,h2⟩
      rcases Zof key s.From with q | q | q
      · rw [h1] at q;cases q
      · exact absurd q h2
      · exact q
    · intro q
      exact ⟨Zjy _ _ q,fun e=>by rw [e,ZkB] at q;cases q⟩
  rw [e]
  cases nm key<;>cases Op.bytesLess s.From key<;>cases (s.To==[])<;>rfl
def withP (a:Zag) (last:Int) (p:Zap):Zag:=⟨a.Groups,last,a.Spans,p⟩
def moveP (s:Zab) (g ph:Int):Zap:=⟨1,ph,s.Shard,0,g,s.Group,s.Epoch,[]⟩
def ZjI (s:Zab) (last:Int) (key:List UInt8):Zap:=⟨2,1,s.Shard,last+1,s.Group,0,s.Epoch,key⟩
def ZlS (s t:Zab):Zap:=⟨3,1,s.Shard,t.Shard,s.Group,0,s.Epoch,[]⟩
theorem Zlr (a : Zag) (h : Zdh a) (hp : a.Plan = noP) (q : Zap) (hq : q.Key.length ≤ 1048576) (hlast : 1 ≤ a.Last) :
    (∃ e,e≠0∧ZbU FM a q=some (a,e)) ∨
    ∃ (i:Nat) (hi:i<a.Spans.length),(a.Spans[i]).Epoch≤1099511627774 ∧
      ((1≤q.Group∧q.Group≤a.Groups∧q.Group≠(a.Spans[i]).Group∧ZbU FM a q=some (withP a a.Last (moveP (a.Spans[i]) q.Group 1),0)) ∨
       (insB (a.Spans[i]) q.Key=true∧a.Spans.length<16∧a.Last<1099511627776∧ZbU FM a q=some (withP a (a.Last+1) (ZjI (a.Spans[i]) a.Last q.Key),0)) ∨
       (∃ (h1:i+1<a.Spans.length),(a.Spans[i+1]).Group=(a.Spans[i]).Group∧(a.Spans[i+1]).Epoch≤1099511627774∧ZbU FM a q=some (withP a a.Last (ZlS (a.Spans[i]) (a.Spans[i+1])),0))):=by
  have hl:=(ZjL h).1
  unfold ZbU
  rw [ZhN h hp,Option.bind_some,Bool.not_true,cond_false,Zkv hl,Option.bind_some,ZdN hl,Option.bind_some,hp]
  rw [show (noP.Kind != 0)=false from rfl,cond_false]
  by_cases k1:q.Kind<1
  · left
    rw [decide_eq_true k1]
    exact ⟨1,by decide,by simp⟩
  rw [decide_eq_false k1,cond_false,Option.bind_some]
  by_cases k2:3<q.Kind
  · left
    rw [decide_eq_true k2]
    exact ⟨1,by decide,by simp⟩
  rw [decide_eq_false k2,cond_false]
  rcases Zja a.Spans q.Shard with ⟨i,hi,_,_,hpl⟩ | ⟨_,hpl⟩
  rotate_left
  · left
    rw [hpl]
    exact ⟨172,by decide,by simp⟩
  rw [hpl,decide_eq_false (by omega),cond_false]
  obtain ⟨f1,f2,f3,f4,f5,f6,f7⟩:=Zg6 h i hi
  unfold Zgi
  simp only [mg0,cond_true,mc,List.getElem?_eq_getElem hi,Option.bind_some,mwa i (by omega)]
  by_cases e1:1099511627774<(a.Spans[i]).Epoch
  · left
    rw [decide_eq_true e1]
    exact ⟨1,by decide,by simp⟩
  rw [decide_eq_false e1,cond_false]
  have hk:q.Kind=1∨q.Kind=2∨q.Kind=3:=by omega
  rcases hk with k | k | k
  · rw [k]
    simp only [show ((1:Int)==3)=false from rfl,show ((1:Int)==1)=true from rfl,cond_false,cond_true,Option.bind_some]
    by_cases g1:q.Group<1
    · left
      rw [decide_eq_true g1]
      exact ⟨1,by decide,by simp⟩
    rw [decide_eq_false g1,cond_false]
    by_cases g2:a.Groups<q.Group
    · left
      rw [decide_eq_true g2]
      exact ⟨1,by decide,by simp⟩
    rw [decide_eq_false g2,cond_false]
    by_cases g3:q.Group=(a.Spans[i]).Group
    · left
      rw [show (q.Group==(a.Spans[i]).Group)=true by simpa using g3]
      exact ⟨1,by decide,by simp⟩
    rw [show (q.Group==(a.Spans[i]).Group)=false by simpa using g3]
    exact .inr ⟨i,hi,by omega,.inl ⟨by omega,by omega,g3,rfl⟩⟩
  · rw [k]
    simp only [show ((2:Int)==3)=false from rfl,show ((2:Int)==1)=false from rfl,show ((2:Int)==2)=true from rfl,cond_false,cond_true,Option.bind_some,Zkd _ _ hq]
    cases c1:insB (a.Spans[i]) q.Key with
    | false=>exact .inl ⟨170,by decide,by simp⟩
    | true =>
      simp only [Bool.not_true,cond_false]
      by_cases c2:(16:Int)≤(a.Spans.length:Int)
      · left
        rw [decide_eq_true c2]
        exact ⟨3,by decide,by simp⟩
      rw [decide_eq_false c2,cond_false]
      by_cases c3:(1099511627776:Int)≤a.Last
      · left
        rw [decide_eq_true c3]
        exact ⟨3,by decide,by simp⟩
      rw [decide_eq_false c3]
      have hw:IntKind.wrap IntKind.i64 (a.Last+1)=a.Last+1:=Zb9 (by omega) (by omega)
      refine .inr ⟨i,hi,by omega,.inr (.inl ⟨c1,by omega,by omega,?_⟩)⟩
      simp only [Option.bind_some,cond_false,hw,Sum.elim_inr]
      rfl
  · rw [k]
    simp only [show ((3:Int)==3)=true from rfl,show ((3:Int)==1)=false from rfl,show ((3:Int)==2)=false from rfl,cond_false,cond_true,Option.bind_some]
    by_cases c1:i+1<a.Spans.length
    · rw [decide_eq_true (by omega),cond_true,List.getElem?_eq_getElem c1]
      simp only [Option.bind_some]
      by_cases c2:1099511627774<(a.Spans[i+1]).Epoch
      · left
        rw [decide_eq_true c2]
        exact ⟨1,by decide,by simp⟩
      rw [decide_eq_false c2,cond_false,show (((i+1:Nat):Int)==(a.Spans.length:Int))=false by rw [beq_eq_false_iff_ne];omega,cond_false]
      by_cases c3:(a.Spans[i+1]).Group=(a.Spans[i]).Group
      · rw [show ((a.Spans[i+1]).Group != (a.Spans[i]).Group)=false by simpa using c3]
        refine .inr ⟨i,hi,by omega,.inr (.inr ⟨c1,c3,by omega,?_⟩)⟩
        simp only [Option.bind_some,cond_false,Sum.elim_inr]
        rfl
      · left
        rw [show ((a.Spans[i+1]).Group != (a.Spans[i]).Group)=true by simpa using c3]
        exact ⟨170,by decide,by simp⟩
    · left
      rw [decide_eq_false (by omega)]
      simp only [cond_false,Option.bind_some]
      rw [show (((i+1:Nat):Int)==(a.Spans.length:Int))=true by rw [beq_iff_eq];omega]
      exact ⟨170,by decide,by simp⟩
end Go.T
set_option linter.unusedVariables false
set_option linter.unusedSimpArgs false
namespace Go.T
open Go Go.Ab
theorem ZkO {a:Zag} (h:Zdh a) (p:Zap) (last:Int) (h1:a.Last≤last) (h2:last≤1099511627776):Zdh (withP a last p):=by
  obtain ⟨q1,q2,q3,q4,q5⟩:=h
  refine ⟨q1,q2,by show ¬ 1099511627776<last;omega,q4,fun i hi=>?_⟩
  replace hi:i<a.Spans.length:=hi
  have:=q5 i hi
  unfold own at this ⊢
  rw [List.getElem?_eq_getElem hi] at this
  rw [show (withP a last p).Spans=a.Spans from rfl,List.getElem?_eq_getElem hi]
  simp only [Bool.and_eq_true,Bool.not_eq_true',decide_eq_false_iff_not,beq_iff_eq] at this ⊢
  obtain ⟨⟨⟨⟨⟨⟨h1,h2⟩,h3⟩,h4⟩,h5⟩,h6⟩,h7⟩:=this
  exact ⟨⟨⟨⟨⟨⟨h1,by show ¬ last<_;omega⟩,h3⟩,h4⟩,h5⟩,h6⟩,h7⟩
theorem Zfi (a : Zag) (hl : a.Spans.length ≤ 16) (hk : a.Plan.Kind ≠ 0) (i : Nat) (hi : i < a.Spans.length) (hpl : plc a.Spans a.Plan.Shard = i) (he : 1 ≤ a.Plan.Epoch) (he2 : a.Plan.Epoch ≤ 1099511627774) :
    (a.Plan.Kind=1→ZbR FM a=ZcE FM a (a.Spans[i]) a.Plan) ∧
    (a.Plan.Kind=2→a.Plan.Past=0→(a.Spans[i]).Group=a.Plan.Group→a.Plan.Phase=1→(a.Spans[i]).Epoch=a.Plan.Epoch→a.Plan.Other=a.Last→plc a.Spans a.Plan.Other = -1→insB (a.Spans[i]) a.Plan.Key=true→a.Plan.Key.length≤16→a.Spans.length<16→ZbR FM a=some true) ∧
    (∀ h1:i+1<a.Spans.length,a.Plan.Kind=3→a.Plan.Past=0→(a.Spans[i]).Group=a.Plan.Group→a.Plan.Phase=1→(a.Spans[i]).Epoch=a.Plan.Epoch→a.Plan.Key=[]→(a.Spans[i+1]).Shard=a.Plan.Other→(a.Spans[i+1]).Group=(a.Spans[i]).Group→(a.Spans[i+1]).Epoch≤1099511627774→ZbR FM a=some true):=by
  have hz:((a.Plan.Kind==(0:Int)) && ((a.Plan.Phase==(0:Int)) && ((a.Plan.Shard==(0:Int)) && ((a.Plan.Other==(0:Int)) && ((a.Plan.Group==(0:Int)) && ((a.Plan.Past==(0:Int)) && ((a.Plan.Epoch==(0:Int)) && ((a.Plan.Key==([]:List UInt8)) && true))))))))=false:=by
    have:(a.Plan.Kind==0)=false:=by simpa using hk
    rw [this];rfl
  have hst:∀ X:Option Bool,True:=fun _=>trivial
  unfold ZbR
  rw [hz,cond_false,ZdN hl,Option.bind_some,hpl,decide_eq_false (by omega),cond_false,decide_eq_false (by omega),cond_false,decide_eq_false (by omega),Option.bind_some,cond_false]
  simp only [mg0,cond_true,mc,List.getElem?_eq_getElem hi,Option.bind_some]
  refine ⟨fun k=>?_,fun k h1 h2 h3 h4 h5 h6 h7 h8 h9=>?_,fun hi1 k h1 h2 h3 h4 h5 h6 h7 h8=>?_⟩
  · rw [show (a.Plan.Kind==1)=true by simpa using k,cond_true]
    cases ZcE FM a (a.Spans[i]) a.Plan<;>rfl
  · rw [show (a.Plan.Kind == 1) = false by rw [k]; rfl, cond_false, show (a.Plan.Past != 0) = false by simpa using h1, cond_false, show ((a.Spans[i]).Group != a.Plan.Group) = false by simpa using h2, cond_false,
      show (a.Plan.Phase != 1)=false by simpa using h3,cond_false,show ((a.Spans[i]).Epoch != a.Plan.Epoch)=false by simpa using h4]
    simp only [Option.bind_some,cond_false]
    rw [show (a.Plan.Kind==2)=true by simpa using k,cond_true,show (a.Plan.Other==a.Last)=true by simpa using h5,cond_true,ZdN hl,Option.bind_some,h6,show decide ((-1:Int)<0)=true from rfl,cond_true,
      Zkd _ _ (by omega),h7,Option.bind_some,cond_true,List.length_map,decide_eq_true (by omega)]
  · rw [show (a.Plan.Kind == 1) = false by rw [k]; rfl, cond_false, show (a.Plan.Past != 0) = false by simpa using h1, cond_false, show ((a.Spans[i]).Group != a.Plan.Group) = false by simpa using h2, cond_false,
      show (a.Plan.Phase != 1)=false by simpa using h3,cond_false,show ((a.Spans[i]).Epoch != a.Plan.Epoch)=false by simpa using h4]
    simp only [Option.bind_some,cond_false]
    rw [show (a.Plan.Kind==2)=false by rw [k];rfl,cond_false,show (a.Plan.Kind==3)=true by simpa using k,cond_true,show (a.Plan.Key==[])=true by simpa using h5,cond_true,mwa i (by omega),decide_eq_true (by omega),cond_true]
    simp only [mg0,cond_true,mc,List.getElem?_eq_getElem hi1,Option.bind_some]
    rw [show ((a.Spans[i+1]).Shard==a.Plan.Other)=true by simpa using h6,cond_true,show ((a.Spans[i+1]).Group==(a.Spans[i]).Group)=true by simpa using h7,cond_true,decide_eq_true h8]
theorem Zj2 (a : Zag) (s : Zab) (p : Zap) (h1 : p.Group ≠ p.Past) (h2 : 1 ≤ p.Group) (h3 : 1 ≤ p.Past) (h4 : p.Group ≤ a.Groups) (h5 : p.Past ≤ a.Groups) (h6 : p.Other = 0) (h7 : p.Key = []) (hs : 1 ≤ s.Epoch ∧ s.Epoch ≤ 1099511627776)
    (h:(p.Phase=1∧s.Group=p.Past∧s.Epoch=p.Epoch)∨((p.Phase=2∨p.Phase=3)∧s.Group=p.Group∧s.Epoch - 1=p.Epoch)):ZcE FM a s p=some true:=by
  unfold ZcE
  have e1:¬ (if p.Past<p.Group then p.Past else p.Group)<1:=by split<;>omega
  have e2:¬ a.Groups<(if p.Past > p.Group then p.Past else p.Group):=by split<;>omega
  rw [show (p.Group==p.Past)=false by simpa using h1,cond_false,decide_eq_false e1,cond_false,decide_eq_false e2,cond_false,show (p.Other != 0)=false by simpa using h6,cond_false,h7]
  simp only [show (!(([]:List UInt8)==[]))=false from rfl,Option.bind_some,cond_false]
  rcases h with ⟨k1,k2,k3⟩ | ⟨k1,k2,k3⟩
  · rw [show (p.Phase==1)=true by simpa using k1,cond_true,show (s.Group==p.Past)=true by simpa using k2,cond_true,show (s.Epoch==p.Epoch)=true by simpa using k3]
  · have hw:IntKind.wrap IntKind.i64 (s.Epoch - 1)=s.Epoch - 1:=Zb9 (by omega) (by omega)
    rw [hw]
    have g2:(s.Group==p.Group)=true:=by simpa using k2
    have g3:(s.Epoch - 1==p.Epoch)=true:=by simpa using k3
    rcases k1 with k1 | k1
    · rw [show (p.Phase==1)=false by rw [k1];rfl,cond_false,show (p.Phase==2)=true by simpa using k1]
      simp only [cond_true,Option.bind_some,g2,g3]
    · rw [show (p.Phase==1)=false by rw [k1];rfl,cond_false,show (p.Phase==2)=false by rw [k1];rfl,cond_false,show (p.Phase==3)=true by simpa using k1]
      simp only [cond_true,Option.bind_some,g2,g3]
theorem Zd8 {a:Zag} (h:a.Spans.length≤16):ZcT FM a=some (a.Groups,a.Last,a.Plan.Kind,a.Plan.Phase,a.Plan.Shard,a.Plan.Other,a.Plan.Group,a.Plan.Past,a.Plan.Epoch,a.Plan.Key,a.Spans):=by
  unfold ZcT
  first
    | (unfold slices_Clone___api_Span_api_Span__i1;rw [decide_eq_true (by simp only [LIM];omega)];rfl)
    | (unfold ZaZ;rw [decide_eq_true (by simp only [LIM];omega)];rfl)
end Go.T
set_option linter.unusedVariables false
set_option linter.unusedSimpArgs false
namespace Go.T
open Go Go.Ab
def Ch:List UInt8→List Zab→Prop
  | fr,[]=>False
  | fr,s::l=>s.From=fr∧((l=[]∧s.To=[])∨(nm s.To=true∧Op.bytesLess s.From s.To=true∧Ch s.To l))
theorem ZeR (fr:List UInt8) (s:Zab) (l:List Zab):Ch fr (s::l)↔s.From=fr∧((l=[]∧s.To=[])∨(nm s.To=true∧Op.bytesLess s.From s.To=true∧Ch s.To l)):=Iff.rfl
theorem Zlq (s:Zab) (post X:List Zab) (h:∀ f,Ch f (s::post)→Ch f X):∀ (pre:List Zab) (fr:List UInt8),Ch fr (pre++s::post)→Ch fr (pre++X):=by
  intro pre
  induction pre with
  | nil=>intro fr hc;exact h fr hc
  | cons p pre ih =>
    intro fr hc
    rw [List.cons_append,ZeR] at hc ⊢
    obtain ⟨h1,h2⟩:=hc
    refine ⟨h1,?_⟩
    rcases h2 with ⟨h2,_⟩ | ⟨h2,h3,h4⟩
    · simp at h2
    · exact .inr ⟨h2,h3,ih _ h4⟩
theorem ch_at:∀ (l:List Zab) (fr:List UInt8),Ch fr l→1≤l.length∧(∀ h:0<l.length,(l[0]).From=fr)∧(∀ h:0<l.length,(l[l.length - 1]'(by omega)).To=[])∧∀ i,i<l.length - 1→upAt l i=true:=by
  intro l
  induction l with
  | nil=>intro fr h;exact h.elim
  | cons s l ih =>
    intro fr h
    rw [ZeR] at h
    obtain ⟨h1,h2⟩:=h
    rcases h2 with ⟨h2,h3⟩ | ⟨h2,h3,h4⟩
    · subst h2
      exact ⟨by simp,fun _=>h1,fun _=>h3,fun i hi=>by simp at hi⟩
    · obtain ⟨i1,i2,i3,i4⟩:=ih _ h4
      refine ⟨by simp,fun _=>h1,fun _=>?_,fun i hi=>?_⟩
      · have:=i3 (by omega)
        have e:(s::l).length - 1=(l.length - 1)+1:=by simp;omega
        have e2:(s::l)[(s::l).length - 1]'(by simp)=l[l.length - 1]'(by omega):=by
          have:∀ k (hk:k<(s::l).length),k=(l.length - 1)+1→(s::l)[k]=l[l.length - 1]'(by omega):=by
            intro k hk e;subst e;exact List.getElem_cons_succ ..
          exact this _ _ e
        rw [e2];exact this
      · cases i with
        | zero =>
          have hl:0<l.length:=by omega
          have:=i2 hl
          unfold upAt up
          rw [show (s::l)[0]? = some s from rfl,show (s::l)[0+1]? = l[0]? from rfl,List.getElem?_eq_getElem hl]
          simp only [h2,Zjy _ _ h3,this]
          have:(s.To==s.From)=false:=by
            rw [beq_eq_false_iff_ne];intro e;rw [e,ZkB] at h3;cases h3
          rw [this];simp
        | succ i =>
          have:=i4 i (by simp at hi;omega)
          unfold upAt at this ⊢
          exact this
def Mp (groups last:Int) (l:List Zab):Prop:=1≤groups∧groups≤8∧last≤1099511627776∧l.length≤16∧Ch [] l∧(l.Pairwise fun a b=>a.Shard≠b.Shard) ∧
  ∀ s,s∈l→1≤s.Shard∧s.Shard≤last∧1≤s.Epoch∧s.Epoch≤1099511627776∧1≤s.Group∧s.Group≤groups
theorem ZdO {a:Zag} (h:Mp a.Groups a.Last a.Spans):Zdh a:=by
  obtain ⟨h1,h2,h3,h4,h5,h6,h7⟩:=h
  obtain ⟨c1,c2,c3,c4⟩:=ch_at _ _ h5
  refine ⟨by omega,by omega,by omega,⟨c1,h4,c2,c3,c4⟩,fun i hi=>?_⟩
  have hp:=List.pairwise_iff_getElem.1 h6
  have hpl:plc a.Spans (a.Spans[i]).Shard=i:=Zgc hi rfl fun k hk=>hp k i (by omega) hi hk
  obtain ⟨b1,b2,b3,b4,b5,b6⟩:=h7 _ (List.getElem_mem hi)
  unfold own
  rw [List.getElem?_eq_getElem hi]
  simp only [hpl,Bool.and_eq_true,Bool.not_eq_true',decide_eq_false_iff_not,beq_iff_eq]
  exact ⟨⟨⟨⟨⟨⟨by omega,by omega⟩,trivial⟩,by omega⟩,by omega⟩,by omega⟩,by omega⟩
theorem ZpA {groups last : Int} {pre post : List Zab} {s : Zab} (h : Mp groups last (pre ++ s :: post)) (t : Zab) (h1 : t.From = s.From) (h2 : t.To = s.To) (h3 : t.Shard = s.Shard) (h4 : 1 ≤ t.Epoch ∧ t.Epoch ≤ 1099511627776) (h5 : 1 ≤ t.Group ∧ t.Group ≤ groups) :
    Mp groups last (pre++t::post):=by
  obtain ⟨q1,q2,q3,q4,q5,q6,q7⟩:=h
  refine ⟨q1,q2,q3,by simpa using q4,Zlq s post _ (fun f hf=>?_) pre [] q5,?_,fun x hx=>?_⟩
  · rw [ZeR] at hf ⊢
    rw [h1,h2];exact hf
  · rw [List.pairwise_append,List.pairwise_cons] at q6 ⊢
    obtain ⟨p1,⟨p2,p3⟩,p4⟩:=q6
    refine ⟨p1,⟨fun x hx=>by rw [h3];exact p2 x hx,p3⟩,fun x hx y hy=>?_⟩
    rcases List.mem_cons.1 hy with hy | hy
    · subst hy;rw [h3];exact p4 x hx s List.mem_cons_self
    · exact p4 x hx y (List.mem_cons_of_mem _ hy)
  · rw [List.mem_append,List.mem_cons] at hx
    rcases hx with hx | hx | hx
    · exact q7 x (List.mem_append_left _ hx)
    · subst hx
      have:=q7 s (List.mem_append_right _ List.mem_cons_self)
      rw [h3]
      exact ⟨this.1,this.2.1,h4.1,h4.2,h5.1,h5.2⟩
    · exact q7 x (List.mem_append_right _ (List.mem_cons_of_mem _ hx))
def Zbt (s:Zab) (key:List UInt8):Zab:=⟨s.From,key,s.Shard,s.Epoch+1,s.Group⟩
def Zcj (s:Zab) (key:List UInt8) (id:Int):Zab:=⟨key,s.To,id,s.Epoch+1,s.Group⟩
theorem ZoP {groups last : Int} {pre post : List Zab} {s : Zab} (h : Mp groups last (pre ++ s :: post)) (key : List UInt8) (hk : insB s key = true) (hl : (pre ++ s :: post).length < 16) (hlast : last < 1099511627776) (hl0 : 1 ≤ last) (he : s.Epoch ≤ 1099511627774) :
    Mp groups (last+1) (pre++Zbt s key::Zcj s key (last+1)::post):=by
  obtain ⟨q1,q2,q3,q4,q5,q6,q7⟩:=h
  unfold insB at hk
  simp only [Bool.and_eq_true,Bool.or_eq_true,beq_iff_eq] at hk
  obtain ⟨⟨k1,k2⟩,k3⟩:=hk
  refine ⟨q1,q2,by omega,by simp at hl ⊢;omega,Zlq s post _ (fun f hf=>?_) pre [] q5,?_,fun x hx=>?_⟩
  · rw [ZeR] at hf
    obtain ⟨h1,h2⟩:=hf
    rw [ZeR]
    refine ⟨h1,.inr ⟨k1,k2,?_⟩⟩
    rw [ZeR]
    refine ⟨rfl,?_⟩
    rcases h2 with ⟨h2,h3⟩ | ⟨h2,h3,h4⟩
    · exact .inl ⟨h2,h3⟩
    · refine .inr ⟨h2,?_,h4⟩
      rcases k3 with k3 | k3
      · exact absurd k3 (nm_ne h2)
      · exact k3
  · rw [List.pairwise_append,List.pairwise_cons] at q6
    obtain ⟨p1,⟨p2,p3⟩,p4⟩:=q6
    rw [List.pairwise_append,List.pairwise_cons,List.pairwise_cons]
    have hlt:∀ x,x∈pre++s::post→x.Shard≤last:=fun x hx=>(q7 x hx).2.1
    refine ⟨p1,⟨fun x hx=>?_,fun x hx=>?_,p3⟩,fun x hx y hy=>?_⟩
    · rcases List.mem_cons.1 hx with hx | hx
      · subst hx
        have:=hlt s (List.mem_append_right _ List.mem_cons_self)
        show s.Shard≠last+1;omega
      · exact p2 x hx
    · have:=hlt x (List.mem_append_right _ (List.mem_cons_of_mem _ hx))
      show last+1≠x.Shard;omega
    · rcases List.mem_cons.1 hy with hy | hy
      · subst hy;exact p4 x hx s List.mem_cons_self
      · rcases List.mem_cons.1 hy with hy | hy
        · subst hy
          have:=hlt x (List.mem_append_left _ hx)
          show x.Shard≠last+1;omega
        · exact p4 x hx y (List.mem_cons_of_mem _ hy)
  · rw [List.mem_append,List.mem_cons,List.mem_cons] at hx
    have hs:=q7 s (List.mem_append_right _ List.mem_cons_self)
    rcases hx with hx | hx | hx | hx
    · have:=q7 x (List.mem_append_left _ hx);exact ⟨this.1,by omega,this.2.2⟩
    · subst hx;show 1≤s.Shard∧s.Shard≤last+1∧1≤s.Epoch+1∧s.Epoch+1≤_∧1≤s.Group∧s.Group≤groups;omega
    · subst hx;show 1≤last+1∧last+1≤last+1∧1≤s.Epoch+1∧s.Epoch+1≤_∧1≤s.Group∧s.Group≤groups;omega
    · have:=q7 x (List.mem_append_right _ (List.mem_cons_of_mem _ hx));exact ⟨this.1,by omega,this.2.2⟩
def ZaD (s t:Zab):Zab:=⟨s.From,t.To,s.Shard,(if t.Epoch > s.Epoch then t.Epoch else s.Epoch)+1,s.Group⟩
theorem ZoQ {groups last : Int} {pre post : List Zab} {s t : Zab} (h : Mp groups last (pre ++ s :: t :: post)) (he : s.Epoch ≤ 1099511627774) (he' : t.Epoch ≤ 1099511627774) :
    Mp groups last (pre++ZaD s t::post):=by
  obtain ⟨q1,q2,q3,q4,q5,q6,q7⟩:=h
  refine ⟨q1,q2,q3,by simp at q4 ⊢;omega,Zlq s (t::post) _ (fun f hf=>?_) pre [] q5,?_,fun x hx=>?_⟩
  · rw [ZeR] at hf
    obtain ⟨h1,h2⟩:=hf
    rw [ZeR]
    refine ⟨h1,?_⟩
    rcases h2 with ⟨h2,h3⟩ | ⟨h2,h3,h4⟩
    · cases h2
    · rw [ZeR] at h4
      obtain ⟨c1,c2⟩:=h4
      rcases c2 with ⟨c2,c3⟩ | ⟨c2,c3,c4⟩
      · exact .inl ⟨c2,c3⟩
      · refine .inr ⟨c2,?_,c4⟩
        rw [c1] at c3
        exact Zgg _ _ _ h3 c3
  · rw [List.pairwise_append,List.pairwise_cons,List.pairwise_cons] at q6
    obtain ⟨p1,⟨p2,p3,p4⟩,p5⟩:=q6
    rw [List.pairwise_append,List.pairwise_cons]
    refine ⟨p1,⟨fun x hx=>p2 x (List.mem_cons_of_mem _ hx),p4⟩,fun x hx y hy=>?_⟩
    rcases List.mem_cons.1 hy with hy | hy
    · subst hy;exact p5 x hx s List.mem_cons_self
    · exact p5 x hx y (List.mem_cons_of_mem _ (List.mem_cons_of_mem _ hy))
  · rw [List.mem_append,List.mem_cons] at hx
    have hs:=q7 s (List.mem_append_right _ List.mem_cons_self)
    rcases hx with hx | hx | hx
    · exact q7 x (List.mem_append_left _ hx)
    · subst hx
      have e1:s.Epoch≤(if t.Epoch > s.Epoch then t.Epoch else s.Epoch):=by split<;>omega
      have e2:(if t.Epoch > s.Epoch then t.Epoch else s.Epoch)≤1099511627774:=by split<;>omega
      exact ⟨hs.1,hs.2.1,by show 1≤_+1;omega,by show _+1≤_;omega,hs.2.2.2.2.1,hs.2.2.2.2.2⟩
    · exact q7 x (List.mem_append_right _ (List.mem_cons_of_mem _ (List.mem_cons_of_mem _ hx)))
end Go.T
set_option linter.unusedVariables false
set_option linter.unusedSimpArgs false
namespace Go.T
open Go Go.Ab
theorem Zg4 {α:Type} (pre:List α) (s:α) (post:List α):(pre++s::post)[pre.length]? = some s:=by simp
theorem Zi3 {α:Type} (pre:List α) (s t:α) (post:List α):(pre++s::post).set pre.length t=pre++t::post:=by simp
theorem ZjA {α:Type} (pre:List α) (s t:α) (post:List α):(pre++s::t::post)[pre.length+1]? = some t:=by
  have:pre++s::t::post=(pre++[s])++t::post:=by simp
  rw [this]
  have h:=Zg4 (pre++[s]) t post
  simp at h ⊢
def ZcY (s:Zab) (g:Int):Zab:=⟨s.From,s.To,s.Shard,s.Epoch+1,g⟩
theorem Zd1 {groups last:Int} {pre post:List Zab} {s:Zab} (h:Mp groups last (pre++s::post)):plc (pre++s::post) s.Shard=(pre.length:Nat):=by
  have hp:=h.2.2.2.2.2.1
  rw [List.pairwise_append] at hp
  have hlt:pre.length<(pre++s::post).length:=by simp
  have hg:(pre++s::post)[pre.length]=s:=by simp
  refine Zgc hlt (by rw [hg]) fun i hi=>?_
  have:(pre++s::post)[i]'(by simp;omega)=pre[i]:=List.getElem_append_left hi
  rw [this]
  exact hp.2.2 _ (List.getElem_mem hi) s List.mem_cons_self
theorem Zay {groups last:Int} {pre post:List Zab} {s:Zab} (h:Mp groups last (pre++s::post)):1≤s.Shard∧s.Shard≤last∧1≤s.Epoch∧s.Epoch≤1099511627776∧1≤s.Group∧s.Group≤groups :=
  h.2.2.2.2.2.2 s (List.mem_append_right _ List.mem_cons_self)
def mvA (G last:Int) (pre post:List Zab) (s:Zab) (g:Int):Zag:=⟨G,last,pre++s::post,moveP s g 1⟩
def mvB (G last:Int) (pre post:List Zab) (s:Zab) (g ph:Int):Zag:=⟨G,last,pre++ZcY s g::post,moveP s g ph⟩
def spA (G last:Int) (pre post:List Zab) (s:Zab) (key:List UInt8):Zag:=⟨G,last+1,pre++s::post,ZjI s last key⟩
def mgA (G last:Int) (pre post:List Zab) (s t:Zab):Zag:=⟨G,last,pre++s::t::post,ZlS s t⟩
theorem Zh7 {G last:Int} {pre post:List Zab} {s:Zab} {g:Int} (h:Mp G last (pre++s::post)) (hg:1≤g∧g≤G) (he:s.Epoch≤1099511627774):Mp G last (pre++ZcY s g::post):=by
  have f:=Zay h
  exact ZpA h (ZcY s g) rfl rfl rfl ⟨by show 1≤s.Epoch+1;omega,by show s.Epoch+1≤_;omega⟩ hg
theorem ZkW {G last:Int} {pre post:List Zab} {s:Zab} {g:Int} (h:Mp G last (pre++s::post)) (hg:1≤g∧g≤G) (he:s.Epoch≤1099511627774):plc (pre++ZcY s g::post) s.Shard=(pre.length:Nat):=Zd1 (Zh7 h hg he)
theorem Zhg {G last:Int} {pre post:List Zab} {s:Zab} {g:Int} (h:Mp G last (pre++s::post)) (hg:1≤g∧g≤G) (hne:g≠s.Group) (he:s.Epoch≤1099511627774):Zbb FM (mvA G last pre post s g)=some true:=by
  have f:=Zay h
  rw [ZdD (ZdO (a:=mvA G last pre post s g) h)]
  have:=(Zfi (mvA G last pre post s g) h.2.2.2.1 (by show (1:Int)≠0;decide) pre.length (by simp [mvA]) (Zd1 h) f.2.2.1 he).1 rfl
  rw [this]
  refine Zj2 _ _ _ hne hg.1 f.2.2.2.2.1 hg.2 f.2.2.2.2.2 rfl rfl ?_ (.inl ⟨rfl,?_,?_⟩)
  all_goals simp only [mvA,List.getElem_append_right (Nat.le_refl _),Nat.sub_self,List.getElem_cons_zero]
  · omega
  · rfl
  · rfl
theorem Zhf {G last:Int} {pre post:List Zab} {s:Zab} {g ph:Int} (h:Mp G last (pre++s::post)) (hg:1≤g∧g≤G) (hne:g≠s.Group) (he:s.Epoch≤1099511627774) (hph:ph=2∨ph=3):Zbb FM (mvB G last pre post s g ph)=some true:=by
  have f:=Zay h
  have h':=Zh7 h hg he
  rw [ZdD (ZdO (a:=mvB G last pre post s g ph) h')]
  have:=(Zfi (mvB G last pre post s g ph) h'.2.2.2.1 (by show (1:Int)≠0;decide) pre.length (by simp [mvB]) (ZkW h hg he) f.2.2.1 he).1 rfl
  rw [this]
  refine Zj2 _ _ _ hne hg.1 f.2.2.2.2.1 hg.2 f.2.2.2.2.2 rfl rfl ?_ (.inr ⟨hph,?_,?_⟩)
  all_goals simp only [mvB,List.getElem_append_right (Nat.le_refl _),Nat.sub_self,List.getElem_cons_zero,ZcY,moveP]
  · omega
  · omega
theorem Zjt {G last:Int} {pre post:List Zab} {s:Zab} {key:List UInt8} (h:Mp G last (pre++s::post)) (hk:insB s key=true) (hl:(pre++s::post).length<16) (hlast:last<1099511627776) (he:s.Epoch≤1099511627774):Zbb FM (spA G last pre post s key)=some true:=by
  have f:=Zay h
  have hs:Zdh (spA G last pre post s key):=ZkO (a:=⟨G,last,pre++s::post,noP⟩) (ZdO (a:=⟨G,last,pre++s::post,noP⟩) h) (ZjI s last key) (last+1) (by show last≤last+1;omega) (by omega)
  rw [ZdD hs]
  have hno:plc (pre++s::post) (last+1) = -1:=Zjb fun i hi e=>by
    have:=(h.2.2.2.2.2.2 _ (List.getElem_mem hi)).2.1;omega
  have hkl:key.length≤16:=by
    unfold insB at hk
    simp only [Bool.and_eq_true] at hk
    exact ZlN hk.1.1
  have hi:pre.length<(spA G last pre post s key).Spans.length:=by simp [spA]
  have hg:(spA G last pre post s key).Spans[pre.length]=s:=by simp [spA]
  exact (Zfi (spA G last pre post s key) h.2.2.2.1 (by show (2:Int)≠0;decide) pre.length hi (Zd1 h) f.2.2.1 he).2.1 rfl rfl (by rw [hg];rfl) rfl (by rw [hg];rfl) rfl hno (by rw [hg];exact hk) hkl hl
theorem Zju {G last:Int} {pre post:List Zab} {s t:Zab} (h:Mp G last (pre++s::t::post)) (hg:t.Group=s.Group) (he:s.Epoch≤1099511627774) (he':t.Epoch≤1099511627774):Zbb FM (mgA G last pre post s t)=some true:=by
  have f:=Zay h
  rw [ZdD (ZdO (a:=mgA G last pre post s t) h)]
  have hi:pre.length<(mgA G last pre post s t).Spans.length:=by simp [mgA]
  have hi1:pre.length+1<(mgA G last pre post s t).Spans.length:=by simp [mgA]
  have hgs:(mgA G last pre post s t).Spans[pre.length]=s:=by simp [mgA]
  have hgt:(mgA G last pre post s t).Spans[pre.length+1]=t:=by
    have h1:(mgA G last pre post s t).Spans[pre.length+1]? = some t:=ZjA pre s t post
    rw [List.getElem?_eq_getElem hi1] at h1
    exact Option.some.inj h1
  exact (Zfi (mgA G last pre post s t) h.2.2.2.1 (by show (3:Int)≠0;decide) pre.length hi (Zd1 h) f.2.2.1 he).2.2 hi1 rfl rfl (by rw [hgs];rfl) rfl (by rw [hgs];rfl) rfl (by rw [hgt];rfl) (by rw [hgt,hgs];exact hg) (by rw [hgt];exact he')
theorem Zon {G last : Int} {pre post : List Zab} {s : Zab} {g : Int} (h : Mp G last (pre ++ s :: post)) (hg : 1 ≤ g ∧ g ≤ G) (hne : g ≠ s.Group) (he : s.Epoch ≤ 1099511627774) :
    Za6 FM (mvA G last pre post s g) 1=some (mvB G last pre post s g 2,0):=by
  have f:=Zay h
  have hw:IntKind.wrap IntKind.i64 (s.Epoch+1)=s.Epoch+1:=Zb9 (by omega) (by omega)
  have hl:(pre++s::post).length≤16:=h.2.2.2.1
  unfold Za6
  rw [Zhg h hg hne he,Option.bind_some,Bool.not_true,cond_false,Zd8 (a:=mvA G last pre post s g) hl]
  simp only [Option.bind_some,mvA,moveP,show ((1:Int)==0)=false from rfl,show ((1:Int) != 1)=false from rfl,cond_false]
  rw [ZdN (a:=⟨G,last,pre++s::post,⟨1,1,s.Shard,0,g,s.Group,s.Epoch,[]⟩⟩) hl,Option.bind_some]
  simp only [Zd1 h,mg0,cond_true,mc,Zg4,Option.bind_some,show ((1:Int)==9)=false from rfl,show ((1:Int)==1)=true from rfl,cond_false,Zi3,hw]
  rfl
theorem Zpq {G last : Int} {pre post : List Zab} {s : Zab} {g : Int} (h : Mp G last (pre ++ s :: post)) (hg : 1 ≤ g ∧ g ≤ G) (hne : g ≠ s.Group) (he : s.Epoch ≤ 1099511627774) :
    Za6 FM (mvB G last pre post s g 2) 2=some (mvB G last pre post s g 3,0):=by
  have hl:(pre++ZcY s g::post).length≤16:=(Zh7 h hg he).2.2.2.1
  unfold Za6
  rw [Zhf h hg hne he (.inl rfl),Option.bind_some,Bool.not_true,cond_false,Zd8 (a:=mvB G last pre post s g 2) hl]
  simp only [Option.bind_some,mvB,moveP,show ((1:Int)==0)=false from rfl,show ((2:Int) != 2)=false from rfl,cond_false]
  rw [ZdN (a:=⟨G,last,pre++ZcY s g::post,⟨1,2,s.Shard,0,g,s.Group,s.Epoch,[]⟩⟩) hl,Option.bind_some]
  simp only [ZkW h hg he,mg0,cond_true,mc,Zg4,Option.bind_some,show ((2:Int)==9)=false from rfl,show ((1:Int)==1)=true from rfl,show ((2:Int)==1)=false from rfl,show ((2:Int)==2)=true from rfl,cond_false]
theorem Zmf {G last : Int} {pre post : List Zab} {s : Zab} {g : Int} (h : Mp G last (pre ++ s :: post)) (hg : 1 ≤ g ∧ g ≤ G) (hne : g ≠ s.Group) (he : s.Epoch ≤ 1099511627774) :
    Za6 FM (mvB G last pre post s g 3) 3=some (⟨G,last,pre++ZcY s g::post,noP⟩,0):=by
  have hl:(pre++ZcY s g::post).length≤16:=(Zh7 h hg he).2.2.2.1
  unfold Za6
  rw [Zhf h hg hne he (.inr rfl),Option.bind_some,Bool.not_true,cond_false,Zd8 (a:=mvB G last pre post s g 3) hl]
  simp only [Option.bind_some,mvB,moveP,show ((1:Int)==0)=false from rfl,show ((3:Int) != 3)=false from rfl,cond_false]
  rw [ZdN (a:=⟨G,last,pre++ZcY s g::post,⟨1,3,s.Shard,0,g,s.Group,s.Epoch,[]⟩⟩) hl,Option.bind_some]
  simp only [ZkW h hg he,mg0,cond_true,mc,Zg4,Option.bind_some,show ((3:Int)==9)=false from rfl,show ((1:Int)==1)=true from rfl,show ((3:Int)==1)=false from rfl,show ((3:Int)==2)=false from rfl,show ((1:Int)==2)=false from rfl,show ((1:Int)==3)=false from rfl,cond_false]
  rfl
theorem ZlQ {α:Type} (pre:List α) (s:α) (post:List α):(pre++s::post).take (pre.length+1)=pre++[s]:=by
  rw [show pre++s::post=(pre++[s])++post by simp]
  exact List.take_left' (by simp)
theorem ZlR {α:Type} (pre:List α) (s:α) (post:List α):(pre++s::post).drop (pre.length+1)=post:=by
  rw [show pre++s::post=(pre++[s])++post by simp]
  exact List.drop_left' (by simp)
theorem Zom {G last : Int} {pre post : List Zab} {s : Zab} {key : List UInt8} (h : Mp G last (pre ++ s :: post)) (hk : insB s key = true) (hl : (pre ++ s :: post).length < 16) (hlast : last < 1099511627776) (he : s.Epoch ≤ 1099511627774) :
    Za6 FM (spA G last pre post s key) 1=some (⟨G,last+1,pre++Zbt s key::Zcj s key (last+1)::post,noP⟩,0):=by
  have f:=Zay h
  have hw:IntKind.wrap IntKind.i64 (s.Epoch+1)=s.Epoch+1:=Zb9 (by omega) (by omega)
  have hl':(pre++s::post).length≤16:=h.2.2.2.1
  unfold Za6
  rw [Zjt h hk hl hlast he,Option.bind_some,Bool.not_true,cond_false,Zd8 (a:=spA G last pre post s key) hl']
  simp only [Option.bind_some,spA,ZjI,show ((2:Int)==0)=false from rfl,show ((1:Int) != 1)=false from rfl,cond_false]
  rw [ZdN (a:=⟨G,last+1,pre++s::post,⟨2,1,s.Shard,last+1,s.Group,0,s.Epoch,key⟩⟩) hl',Option.bind_some]
  simp only [Zd1 h,mg0,cond_true,mc,Zg4,Option.bind_some,show ((1:Int)==9)=false from rfl,show ((2:Int)==1)=false from rfl,show ((2:Int)==2)=true from rfl,cond_false,Zi3,hw]
  rw [mwa pre.length (by simp at hl;omega)]
  unfold Zbe
  simp only [mc]
  rw [decide_eq_true (by refine ⟨by omega,?_,?_⟩<;>simp at hl ⊢<;>simp only [LIM]<;>omega)]
  simp only [cond_true,Option.bind_some,ZlQ,ZlR,List.append_assoc,List.singleton_append]
  rfl
theorem Zoo {G last : Int} {pre post : List Zab} {s t : Zab} (h : Mp G last (pre ++ s :: t :: post)) (hg : t.Group = s.Group) (he : s.Epoch ≤ 1099511627774) (he' : t.Epoch ≤ 1099511627774) :
    Za6 FM (mgA G last pre post s t) 1=some (⟨G,last,pre++ZaD s t::post,noP⟩,0):=by
  have f:=Zay h
  have hl:(pre++s::t::post).length≤16:=h.2.2.2.1
  have hft:1≤t.Epoch:=(h.2.2.2.2.2.2 t (by simp)).2.2.1
  have hw:IntKind.wrap IntKind.i64 ((if t.Epoch > s.Epoch then t.Epoch else s.Epoch)+1)=(if t.Epoch > s.Epoch then t.Epoch else s.Epoch)+1:=Zb9 (by split<;>omega) (by split<;>omega)
  have hw2:IntKind.wrap IntKind.i64 ((pre.length:Int)+2)=((pre.length+2:Nat):Int):=by rw [Zb9 (by omega) (by simp at hl;omega)];omega
  unfold Za6
  rw [Zju h hg he he',Option.bind_some,Bool.not_true,cond_false,Zd8 (a:=mgA G last pre post s t) hl]
  simp only [Option.bind_some,mgA,ZlS,show ((3:Int)==0)=false from rfl,show ((1:Int) != 1)=false from rfl,cond_false]
  rw [ZdN (a:=⟨G,last,pre++s::t::post,⟨3,1,s.Shard,t.Shard,s.Group,0,s.Epoch,[]⟩⟩) hl,Option.bind_some]
  simp only [Zd1 h]
  rw [mwa pre.length (by simp at hl;omega),hw2]
  simp only [mg0,cond_true,mc,Zg4,ZjA,Option.bind_some,show ((1:Int)==9)=false from rfl,show ((3:Int)==1)=false from rfl,show ((3:Int)==2)=false from rfl,show ((3:Int)==3)=true from rfl,cond_false,Zi3,hw]
  unfold Zbg
  simp only [mc]
  rw [decide_eq_true (by refine ⟨by omega,by omega,?_⟩;simp)]
  simp only [cond_true,Option.bind_some,ZlQ]
  have hd:∀ x:Zab,(pre++x::t::post).drop (pre.length+1+1)=post:=by
    intro x
    rw [show pre++x::t::post=(pre++[x])++t::post by simp]
    have:=ZlR (pre++[x]) t post
    rw [List.length_append,List.length_singleton] at this
    exact this
  rw [hd]
  simp only [List.append_assoc,List.singleton_append]
  rfl
end Go.T
set_option linter.unusedVariables false
set_option linter.unusedSimpArgs false
namespace Go.T
open Go Go.Ab
def noC:ZdI:=⟨0,0,0,[],[],[],[],0⟩
def ord (k id ep past:Int):Zae:=⟨k,id,ep,0,past,[],noC,noS⟩
def insO (h:Zaa) (ep:Int):Zae:=⟨4,0,0,0,0,[],noC,⟨h.Id,ep,3,h.From,h.To,h.Jobs,h.Seen⟩⟩
def splO (s:Zab) (last:Int) (key:List UInt8):Zae:=⟨7,s.Shard,s.Epoch,last+1,s.Epoch+1,key,noC,noS⟩
def mrgO (s t:Zab):Zae:=⟨8,s.Shard,s.Epoch,t.Shard,(if t.Epoch > s.Epoch then t.Epoch else s.Epoch)+1,[],noC,⟨0,t.Epoch,0,[],[],[],[]⟩⟩
theorem ZpY {a:Zag} (h:Zdh a) (hp:a.Plan=noP) (x:Zaa):∃ g o,ZaL FM a x=some (g,o,false):=by
  unfold ZaL
  rw [ZhN h hp,Option.bind_some,Bool.not_true,cond_false,hp]
  exact ⟨_,_,rfl⟩
theorem Zkh (p:Zap) (h:Zaa):Zfj FM p h=some (h.Id==p.Shard && h.Epoch==p.Epoch):=by
  unfold Zfj
  cases (h.Id==p.Shard)<;>rfl
theorem Zk4 {l : List Zac} (hl : l.length ≤ 2000000) (hj : ∀ y, y ∈ l → y.Result.Jobs.length ≤ 2000000) :
    ∀ n (i:Nat),l.length - i<n→ZcN FM l n (i:Int) l=some l:=by
  intro n
  induction n with
  | zero=>intro i h;omega
  | succ n ih =>
    intro i h
    simp only [ZcN]
    by_cases hi:i<l.length
    · rw [decide_eq_true (by omega),cond_true]
      simp only [mg0,mwa i (by omega),cond_true,mc,List.getElem?_eq_getElem hi,Option.bind_some,Zem _ (hj _ (List.getElem_mem hi))]
      have e:l.set i ⟨l[i].Client,l[i].Seq,⟨l[i].Result.Err,l[i].Result.Time,l[i].Result.Jobs⟩⟩=l:=List.set_getElem_self hi
      rw [e]
      exact ih (i+1) (by omega)
    · rw [decide_eq_false (by omega)];rfl
section
variable {G last:Int} {pre post:List Zab} {s:Zab} {g:Int}
theorem Zk3 (h : Mp G last (pre ++ s :: post)) (hg : 1 ≤ g ∧ g ≤ G) (hne : g ≠ s.Group) (he : s.Epoch ≤ 1099511627774) (x : Zaa) (hx : ¬ (x.Id = s.Shard ∧ x.Epoch = s.Epoch)) :
    ZaL FM (mvA G last pre post s g) x=some (s.Group,ord 2 s.Shard s.Epoch 0,true):=by
  have hh:(x.Id==s.Shard && x.Epoch==s.Epoch)=false:=by
    rw [Bool.and_eq_false_iff,beq_eq_false_iff_ne,beq_eq_false_iff_ne];omega
  unfold ZaL
  rw [Zhg h hg hne he,Option.bind_some,Bool.not_true,cond_false]
  simp only [Option.bind_some,mvA,moveP,show ((1:Int)==0)=false from rfl,cond_false,show ((1:Int)==9)=false from rfl,show ((1:Int)==1)=true from rfl,cond_true]
  unfold Zdn
  simp only [show ((1:Int)==1)=true from rfl,cond_true,Zkh,hh,Option.bind_some,Bool.not_false,Sum.elim_inl]
  rfl
theorem Zho (h : Mp G last (pre ++ s :: post)) (hg : 1 ≤ g ∧ g ≤ G) (hne : g ≠ s.Group) (he : s.Epoch ≤ 1099511627774) (x : Zaa) (hx : x.Id = s.Shard ∧ x.Epoch = s.Epoch) (hb : SB x) :
    ZaL FM (mvA G last pre post s g) x=some (g,insO x (s.Epoch+1),true):=by
  have f:=Zay h
  have hw:IntKind.wrap IntKind.i64 (s.Epoch+1)=s.Epoch+1:=Zb9 (by omega) (by omega)
  have hh:(x.Id==s.Shard && x.Epoch==s.Epoch)=true:=by rw [hx.1,hx.2];simp
  have hlp:=Zk4 hb.2.1 hb.2.2 FM 0 (by have:=hb.2.1;show _<4000000;omega)
  simp only [Int.natCast_zero] at hlp
  unfold ZaL
  rw [Zhg h hg hne he,Option.bind_some,Bool.not_true,cond_false]
  simp only [Option.bind_some,mvA,moveP,show ((1:Int)==0)=false from rfl,cond_false,show ((1:Int)==9)=false from rfl,show ((1:Int)==1)=true from rfl,cond_true]
  unfold Zdn
  simp only [show ((1:Int)==1)=true from rfl,cond_true,Zkh,hh,Option.bind_some,Bool.not_true,cond_false,Zem _ hb.1,Zhe _ hb.2.1,hlp,Sum.elim_inl,hw]
  rfl
theorem Znv (h : Mp G last (pre ++ s :: post)) (hg : 1 ≤ g ∧ g ≤ G) (hne : g ≠ s.Group) (he : s.Epoch ≤ 1099511627774) (x : Zaa) :
    ZaL FM (mvB G last pre post s g 2) x=some (g,ord 5 s.Shard (s.Epoch+1) 0,true):=by
  have f:=Zay h
  have hw:IntKind.wrap IntKind.i64 (s.Epoch+1)=s.Epoch+1:=Zb9 (by omega) (by omega)
  unfold ZaL
  rw [Zhf h hg hne he (.inl rfl),Option.bind_some,Bool.not_true,cond_false]
  simp only [Option.bind_some,mvB,moveP,show ((1:Int)==0)=false from rfl,cond_false,show ((2:Int)==9)=false from rfl,show ((1:Int)==1)=true from rfl,cond_true]
  unfold Zdn
  simp only [show ((2:Int)==1)=false from rfl,show ((2:Int)==2)=true from rfl,cond_true,Option.bind_some,cond_false,Sum.elim_inl,hw]
  rfl
theorem Zj1 (h : Mp G last (pre ++ s :: post)) (hg : 1 ≤ g ∧ g ≤ G) (hne : g ≠ s.Group) (he : s.Epoch ≤ 1099511627774) (x : Zaa) :
    ZaL FM (mvB G last pre post s g 3) x=some (s.Group,ord 6 s.Shard s.Epoch 0,true):=by
  unfold ZaL
  rw [Zhf h hg hne he (.inr rfl),Option.bind_some,Bool.not_true,cond_false]
  simp only [Option.bind_some,mvB,moveP,show ((1:Int)==0)=false from rfl,cond_false,show ((3:Int)==9)=false from rfl,show ((1:Int)==1)=true from rfl,cond_true]
  unfold Zdn
  simp only [show ((3:Int)==1)=false from rfl,show ((3:Int)==2)=false from rfl,cond_true,Option.bind_some,cond_false,Sum.elim_inr]
  rfl
theorem ZlO {key : List UInt8} (h : Mp G last (pre ++ s :: post)) (hk : insB s key = true) (hl : (pre ++ s :: post).length < 16) (hlast : last < 1099511627776) (he : s.Epoch ≤ 1099511627774) (x : Zaa) :
    ZaL FM (spA G last pre post s key) x=some (s.Group,splO s last key,true):=by
  have f:=Zay h
  have hw:IntKind.wrap IntKind.i64 (s.Epoch+1)=s.Epoch+1:=Zb9 (by omega) (by omega)
  unfold ZaL
  rw [Zjt h hk hl hlast he,Option.bind_some,Bool.not_true,cond_false]
  simp only [Option.bind_some,spA,ZjI,show ((2:Int)==0)=false from rfl,cond_false,show ((1:Int)==9)=false from rfl,show ((2:Int)==1)=false from rfl,show ((2:Int)==2)=true from rfl,cond_true,hw]
  rfl
theorem ZmE {a:Zag} (hs:a.Spans.length≤16):ZaW FM a.Spans a.Plan=some (plc a.Spans a.Plan.Other):=by
  have hl:=ZhM (fun n i=>Zav FM a.Spans a.Plan n i) a.Spans.length (at_sh a.Spans a.Plan.Other)
    (fun n i hi=>by
      simp only [Zav,Ze4]
      rw [decide_eq_true (by omega),cond_true]
      simp only [mg0,cond_true,mc,List.getElem?_eq_getElem hi,Option.bind_some]
      rw [Zb9 (by omega) (by omega)]
      rw [Ze7 hi])
    (fun n i hi=>by
      simp only [Zav]
      rw [decide_eq_false (by omega),cond_false]) FM 0 (by show _<4000000;omega)
  unfold ZaW
  simp only [Int.natCast_zero] at hl
  rcases hl with ⟨j,_,h2,h3,h4,h5⟩ | ⟨h3,h5⟩
  · rw [h5,Zgc h2 (by rw [Ze7 h2] at h3;simpa using h3) (fun i hi e=>by have:=h4 i (Nat.zero_le _) hi;rw [Ze7 (by omega)] at this;simp [e] at this)];rfl
  · rw [h5,Zjb (fun i hi e=>by have:=h3 i (Nat.zero_le _) hi;rw [Ze7 hi] at this;simp [e] at this)];rfl
theorem ZlP {t : Zab} (h : Mp G last (pre ++ s :: t :: post)) (hg : t.Group = s.Group) (he : s.Epoch ≤ 1099511627774) (he' : t.Epoch ≤ 1099511627774) (x : Zaa) :
    ZaL FM (mgA G last pre post s t) x=some (s.Group,mrgO s t,true):=by
  have f:=Zay h
  have hft:1≤t.Epoch:=(h.2.2.2.2.2.2 t (by simp)).2.2.1
  have hw:IntKind.wrap IntKind.i64 ((if t.Epoch > s.Epoch then t.Epoch else s.Epoch)+1)=(if t.Epoch > s.Epoch then t.Epoch else s.Epoch)+1:=Zb9 (by split<;>omega) (by split<;>omega)
  have hpl:plc (pre++s::t::post) t.Shard=((pre.length+1:Nat):Int):=by
    have h2:Mp G last ((pre++[s])++t::post):=by simpa using h
    have:=Zd1 h2
    simpa using this
  unfold ZaL
  rw [Zju h hg he he',Option.bind_some,Bool.not_true,cond_false]
  simp only [Option.bind_some,mgA,ZlS,show ((3:Int)==0)=false from rfl,cond_false,show ((1:Int)==9)=false from rfl,show ((3:Int)==1)=false from rfl,show ((3:Int)==2)=false from rfl,cond_true]
  have:=ZmE (a:=⟨G,last,pre++s::t::post,⟨3,1,s.Shard,t.Shard,s.Group,0,s.Epoch,[]⟩⟩) h.2.2.2.1
  simp only at this
  rw [this,Option.bind_some,hpl]
  simp only [mg0,cond_true,mc,ZjA,Option.bind_some]
  show some (s.Group,(Zae.mk 8 s.Shard s.Epoch t.Shard (IntKind.wrap IntKind.i64 ((if t.Epoch > s.Epoch then t.Epoch else s.Epoch)+1)) [] noC ⟨0,t.Epoch,0,[],[],[],[]⟩),true)=_
  rw [hw]
  rfl
end
theorem Zep {a : Zag} {x : Zaa} {g : Int} {o : Zae} (h : ZaL FM a x = some (g, o, true)) (hp : a.Plan.Phase ≠ 9) (r : Zam) (hr : r.Err = 0) (s : Zaa) :
    (o.Kind=2→Zbj FM a x r s=some (s,0))∧(o.Kind=4→Zbj FM a x r s=some (x,1))∧(o.Kind=5→Zbj FM a x r s=some (noS,2)) ∧
    (o.Kind=6→Zbj FM a x r s=some (x,3))∧(o.Kind=7→Zbj FM a x r s=some (x,1))∧(o.Kind=8→Zbj FM a x r s=some (x,1)):=by
  have hp9:(a.Plan.Phase==9)=false:=by simpa using hp
  unfold Zbj
  rw [h]
  simp only [Option.bind_some,Bool.not_true,cond_false,hp9,hr,List.length_cons,List.length_nil]
  rw [decide_eq_true (show 0+1+1≤LIM by simp only [LIM];omega),decide_eq_true (show 0+1+1+1≤LIM by simp only [LIM];omega),decide_eq_true (show 0+1+1+1+1≤LIM by simp only [LIM];omega),decide_eq_true (show 0+1+1+1+1+1≤LIM by simp only [LIM];omega)]
  simp only [cond_true]
  refine ⟨fun k=>?_,fun k=>?_,fun k=>?_,fun k=>?_,fun k=>?_,fun k=>?_⟩<;>rw [k]<;>first | rfl | (simp;done) | skip
end Go.T
set_option linter.unusedVariables false
set_option linter.unusedSimpArgs false
namespace Go.T
open Go Go.Ab
def cutJ (jobs:List Zaf) (fr ta:List UInt8):List Zaf:=jobs.filter fun j=>inB fr ta j.Name
def spanS (jobs:List Zaf) (seen:List Zac) (s:Zab):Zaa:=⟨s.Shard,s.Epoch,1,s.From,s.To,cutJ jobs s.From s.To,seen⟩
def gi (g:Int):Nat:=(g - 1).toNat
def Start (jobs:List Zaf) (seen:List Zac):Prop:=JobsR jobs∧jobs.length≤16∧(∀ j,j∈jobs→nm j.Name=true)∧Zbl FM seen=some true∧seen.length≤2000000∧(∀ r,r∈seen→r.Result.Jobs.length≤2000000)∧ZdJ FM seen seen=some (seen,0)
structure Inv (jobs:List Zaf) (seen:List Zac) (G last:Int) (l:List Zab) (Gs:Grs):Prop where
  mp:Mp G last l
  len:(Gs.length:Int)=G
  base:Base last Gs
  home:∀ s,s∈l→lk Gs (gi s.Group) s.Shard=some (spanS jobs seen s)
  rest:∀ g id x,lk Gs g id=some x→x.State=4∨∃ s,s∈l∧gi s.Group=g∧x=spanS jobs seen s
  old:∀ s,s∈l→∀ g x,g≠gi s.Group→lk Gs g s.Shard=some x→x.Epoch<s.Epoch
  count:liveT Gs=l.length
theorem Zkb {jobs:List Zaf} (h:JobsR jobs) (p:Zaf→Bool):JobsR (jobs.filter p) :=
  ⟨fun j hj=>h.1 j (List.mem_filter.1 hj).1,h.2.1.filter p,Nat.le_trans (List.length_filter_le _ _) h.2.2⟩
theorem ZfT {G last:Int} {l:List Zab} (h:Mp G last l) {s:Zab} (hs:s∈l):rngB s.From s.To=true:=by
  obtain ⟨i,hi,rfl⟩:=List.getElem_of_mem hs
  exact ZlE (a:=⟨G,last,l,noP⟩) (ZdO (a:=⟨G,last,l,noP⟩) h) i hi
theorem Zf0 {jobs:List Zaf} {seen:List Zac} (hst:Start jobs seen) (id ep st:Int) (fr ta:List UInt8) (h1:1≤id) (h2:1≤ep) (h3:ep≤1099511627776) (h4:1≤st) (h5:st≤3) (hr:rngB fr ta=true):GoodS ⟨id,ep,st,fr,ta,cutJ jobs fr ta,seen⟩:=by
  obtain ⟨q1,q2,q3,q4,q5,q6,q7⟩:=hst
  refine ⟨⟨h1,h2,h3,h4,by show st≤4;omega,hr,Zkb q1 _,q4,fun e=>absurd (show st=4 from e) (by omega),fun j hj=>?_⟩,?_,q5,q6⟩
  · exact (List.mem_filter.1 hj).2
  · have:=List.length_filter_le (fun j:Zaf=>inB fr ta j.Name) jobs
    show (cutJ jobs fr ta).length≤_
    unfold cutJ;omega
theorem ZgV {id ep:Int} {fr ta:List UInt8} (h1:1≤id) (h2:1≤ep) (h3:ep≤1099511627776) (hr:rngB fr ta=true):GoodS ⟨id,ep,4,fr,ta,[],[]⟩:=by
  have hsc:Zbl FM []=some true:=by
    unfold Zbl
    have:ZbG FM [] FM 0=some (.inr ()):=by
      show ZbG FM [] (3999999+1) 0=_
      unfold ZbG;rfl
    rw [this];rfl
  refine ⟨⟨h1,h2,h3,by show (1:Int)≤4;decide,by show (4:Int)≤4;decide,hr,⟨fun j hj=>by simp at hj,List.Pairwise.nil,by simp⟩,hsc,fun _=>⟨rfl,rfl⟩,fun j hj=>by simp at hj⟩,by simp,by simp,fun r hr=>by simp at hr⟩
section
variable {jobs:List Zaf} {seen:List Zac} {G last:Int} {l:List Zab} {Gs:Grs}
theorem Inv.group (h:Inv jobs seen G last l Gs) {s:Zab} (hs:s∈l):gi s.Group<Gs.length:=lk_in (h.home s hs)
theorem ZpC {a b:Int} (ha:1≤a) (hb:1≤b) (h:gi a=gi b):a=b:=by unfold gi at h;omega
end
structure StepW (A:Zag) (Gs:Grs) (x:Zaa) (g:Int) (o:Zae) (A':Zag) (Gs':Grs) (x':Zaa):Prop where
  next:ZaL FM A x=some (g,o,true)
  g1:1≤g
  g2:g≤Gs.length
  sent:∃ e s l',Ze3 FM (gr Gs (gi g)) o=some (errR e,s,l')∧Gs'=Gs.set (gi g) l' ∧
    ∃ d,Zbj FM A x (errR e) s=some (x',d)∧0≤d∧(d=0∧A'=A∨0<d∧Za6 FM A d=some (A',0))
theorem Zeh {A A' : Zag} {Gs : Grs} {x x' : Zaa} {g : Int} {o : Zae} (hn : ZaL FM A x = some (g, o, true)) (g1 : 1 ≤ g) (g2 : g ≤ Gs.length) (hk : 2 ≤ o.Kind ∧ o.Kind ≤ 8)
    (hg:GoodL (gr Gs (gi g))) {s:Zaa} {l':List Zaa} (hd:does o (gr Gs (gi g))=some (errR 0,s,l')) {d:Int} (hh:Zbj FM A x (errR 0) s=some (x',d)) (hd0:0≤d) (ha:d=0∧A'=A∨0<d∧Za6 FM A d=some (A',0)) :
    StepW A Gs x g o A' (Gs.set (gi g) l') x' :=
  ⟨hn,g1,g2,0,s,l',do_eq _ o hg hk hd,rfl,d,hh,hd0,ha⟩
section
variable {G last:Int} {pre post:List Zab} {s:Zab} {g:Int} {Gs:Grs}
theorem ZkK (h : Mp G last (pre ++ s :: post)) (hlen : (Gs.length : Int) = G) (hg : 1 ≤ g ∧ g ≤ G) (hne : g ≠ s.Group) (he : s.Epoch ≤ 1099511627774) (x : Zaa) (hx : ¬ (x.Id = s.Shard ∧ x.Epoch = s.Epoch))
    (hgl:GoodL (gr Gs (gi s.Group))) {S:Zaa} (hS:lk Gs (gi s.Group) s.Shard=some S) (hSt:S.State=1∨S.State=2) (hSe:S.Epoch=s.Epoch) :
    StepW (mvA G last pre post s g) Gs x s.Group (ord 2 s.Shard s.Epoch 0) (mvA G last pre post s g) (putG Gs (gi s.Group) (ZbK S 2)) (ZbK S 2):=by
  have f:=Zay h
  have hn:=Zk3 h hg hne he x hx
  refine Zeh hn f.2.2.2.2.1 (by omega) ⟨by show (2:Int)≤2;decide,by show (2:Int)≤8;decide⟩ hgl (s:=ZbK S 2) (d:=0) ?_ ?_ (by decide) (.inl ⟨rfl,rfl⟩)
  · unfold does
    rw [if_pos (by show (2:Int)=2;rfl)]
    exact ZgF (ord 2 s.Shard s.Epoch 0) (by have:=hgl.2.1;omega) hgl.1 (fun x hx=>(hgl.2.2.2 x hx).2) hS hSt hSe
  · exact (Zep hn (by show (1:Int)≠9;decide) (errR 0) rfl _).1 rfl
theorem ZjH (h : Mp G last (pre ++ s :: post)) (hlen : (Gs.length : Int) = G) (hg : 1 ≤ g ∧ g ≤ G) (hne : g ≠ s.Group) (he : s.Epoch ≤ 1099511627774) (x : Zaa) (hx : x.Id = s.Shard ∧ x.Epoch = s.Epoch)
    (hx2:GoodS (insO x (s.Epoch+1)).State) (hb:SB x)
    (hgl:GoodL (gr Gs (gi g))) (hl:(gr Gs (gi g)).length<64) (hlv:liveN (gr Gs (gi g))<16) (hno:∀ y,lk Gs (gi g) s.Shard=some y→y.State=4∧y.Epoch<s.Epoch+1) :
    StepW (mvA G last pre post s g) Gs x g (insO x (s.Epoch+1)) (mvB G last pre post s g 2) (putG Gs (gi g) ⟨x.Id,s.Epoch+1,3,x.From,x.To,x.Jobs,x.Seen⟩) x:=by
  have hn:=Zho h hg hne he x hx hb
  refine Zeh hn hg.1 (by omega) ⟨by show (2:Int)≤4;decide,by show (4:Int)≤8;decide⟩ hgl (s:=noS) (d:=1) ?_ ?_ (by decide) (.inr ⟨by decide,Zon h hg hne he⟩)
  · unfold does
    rw [if_neg (by show ¬ (4:Int)=2;decide),if_neg (by show ¬ (4:Int)=3;decide),if_pos (by show (4:Int)=4;rfl)]
    exact Zmz (insO x (s.Epoch+1)) hl hgl.1 hx2 (by show (3:Int)≠4;decide) hlv (fun y hy=>hno y (by rw [← hx.1];exact hy))
  · exact (Zep hn (by show (1:Int)≠9;decide) (errR 0) rfl _).2.1 rfl
theorem ZmY (h : Mp G last (pre ++ s :: post)) (hlen : (Gs.length : Int) = G) (hg : 1 ≤ g ∧ g ≤ G) (hne : g ≠ s.Group) (he : s.Epoch ≤ 1099511627774) (x : Zaa)
    (hgl:GoodL (gr Gs (gi g))) {S:Zaa} (hS:lk Gs (gi g) s.Shard=some S) (hSt:S.State=1∨S.State=3) (hSe:S.Epoch=s.Epoch+1) :
    StepW (mvB G last pre post s g 2) Gs x g (ord 5 s.Shard (s.Epoch+1) 0) (mvB G last pre post s g 3) (putG Gs (gi g) (ZbK S 1)) noS:=by
  have hn:=Znv h hg hne he x
  refine Zeh hn hg.1 (by omega) ⟨by show (2:Int)≤5;decide,by show (5:Int)≤8;decide⟩ hgl (s:=noS) (d:=2) ?_ ?_ (by decide) (.inr ⟨by decide,Zpq h hg hne he⟩)
  · unfold does
    rw [if_neg (by show ¬ (5:Int)=2;decide),if_neg (by show ¬ (5:Int)=3;decide),if_neg (by show ¬ (5:Int)=4;decide),if_pos (by show (5:Int)=5;rfl)]
    exact Znp (ord 5 s.Shard (s.Epoch+1) 0) (by have:=hgl.2.1;omega) hgl.1 hS hSt hSe
  · exact (Zep hn (by show (2:Int)≠9;decide) (errR 0) rfl _).2.2.1 rfl
theorem ZkJ (h : Mp G last (pre ++ s :: post)) (hlen : (Gs.length : Int) = G) (hg : 1 ≤ g ∧ g ≤ G) (hne : g ≠ s.Group) (he : s.Epoch ≤ 1099511627774) (x : Zaa)
    (hgl:GoodL (gr Gs (gi s.Group))) {S:Zaa} (hS:lk Gs (gi s.Group) s.Shard=some S) (hSt:S.State=2∨S.State=3) (hSe:S.Epoch=s.Epoch) :
    StepW (mvB G last pre post s g 3) Gs x s.Group (ord 6 s.Shard s.Epoch 0) ⟨G,last,pre++ZcY s g::post,noP⟩ (putG Gs (gi s.Group) (gone S)) x:=by
  have f:=Zay h
  have hn:=Zj1 h hg hne he x
  refine Zeh hn f.2.2.2.2.1 (by omega) ⟨by show (2:Int)≤6;decide,by show (6:Int)≤8;decide⟩ hgl (s:=noS) (d:=3) ?_ ?_ (by decide) (.inr ⟨by decide,Zmf h hg hne he⟩)
  · unfold does
    rw [if_neg (by show ¬ (6:Int)=2;decide),if_neg (by show ¬ (6:Int)=3;decide),if_neg (by show ¬ (6:Int)=4;decide),if_neg (by show ¬ (6:Int)=5;decide),if_pos (by show (6:Int)=6;rfl)]
    exact ZjQ (ord 6 s.Shard s.Epoch 0) (by have:=hgl.2.1;omega) hgl.1 f.1 f.2.2.1 f.2.2.2.1 hS hSt hSe
  · exact (Zep hn (by show (3:Int)≠9;decide) (errR 0) rfl _).2.2.2.1 rfl
theorem Zmi {key : List UInt8} (h : Mp G last (pre ++ s :: post)) (hlen : (Gs.length : Int) = G) (hk : insB s key = true) (hl : (pre ++ s :: post).length < 16) (hlast : last < 1099511627776) (hlast0 : 1 ≤ last) (he : s.Epoch ≤ 1099511627774) (x : Zaa)
    (hgl:GoodL (gr Gs (gi s.Group))) (hl64:(gr Gs (gi s.Group)).length<64) (hlv:liveN (gr Gs (gi s.Group))<16) {S:Zaa} (hS:lk Gs (gi s.Group) s.Shard=some S) (hSt:S.State=1) (hSe:S.Epoch=s.Epoch) (hSf:S.From=s.From) (hSto:S.To=s.To)
    (hno:lk Gs (gi s.Group) (last+1)=none) :
    StepW (spA G last pre post s key) Gs x s.Group (splO s last key) ⟨G,last+1,pre++Zbt s key::Zcj s key (last+1)::post,noP⟩
      (putG (putG Gs (gi s.Group) (Zed S (splO s last key))) (gi s.Group) (ZgK S (splO s last key))) x:=by
  have f:=Zay h
  have hn:=ZlO h hk hl hlast he x
  have hSg:GoodS S:=hgl.2.2.2 S (ZbM hS).1
  have hr:=ZkQ hSg.1.2.2.2.2.2.1
  have hk':=hk
  unfold insB at hk'
  simp only [Bool.and_eq_true,Bool.or_eq_true,beq_iff_eq] at hk'
  obtain ⟨⟨k1,k2⟩,k3⟩:=hk'
  have hkl:=ZlN k1
  have hin:Zdu FM S (splO s last key).Key=some true:=by
    rw [In_eq S _ (by omega) (by omega) (by show key.length≤_;omega),hSg.1.2.2.2.2.2.1,Bool.true_and]
    unfold inB
    rw [hSf,hSto]
    show some (nm key && !Op.bytesLess key s.From && (s.To==[] || Op.bytesLess key s.To))=_
    rw [k1,Zjy _ _ k2]
    rcases k3 with k3 | k3
    · rw [k3];rfl
    · rw [k3];simp
  have hkne:(splO s last key).Key≠S.From:=by
    rw [hSf]
    show key≠s.From
    intro e
    rw [e,ZkB] at k2;cases k2
  have hgr:gr (Gs.set (gi s.Group) (put (gr Gs (gi s.Group)) (Zed S (splO s last key)))) (gi s.Group)=put (gr Gs (gi s.Group)) (Zed S (splO s last key)):=by
    rw [ZlZ (lk_in hS),if_pos rfl]
  have e:putG (putG Gs (gi s.Group) (Zed S (splO s last key))) (gi s.Group) (ZgK S (splO s last key))=Gs.set (gi s.Group) (put (put (gr Gs (gi s.Group)) (Zed S (splO s last key))) (ZgK S (splO s last key))):=by
    unfold putG
    rw [hgr,Zg7]
  rw [e]
  refine Zeh hn f.2.2.2.2.1 (by omega) ⟨by show (2:Int)≤7;decide,by show (7:Int)≤8;decide⟩ hgl (s:=noS) (d:=1) ?_ ?_ (by decide) (.inr ⟨by decide,Zom h hk hl hlast he⟩)
  · unfold does
    rw [if_neg (by show ¬ (7:Int)=2;decide),if_neg (by show ¬ (7:Int)=3;decide),if_neg (by show ¬ (7:Int)=4;decide),if_neg (by show ¬ (7:Int)=5;decide),if_neg (by show ¬ (7:Int)=6;decide),if_pos (by show (7:Int)=7;rfl)]
    exact ZoF (splO s last key) hl64 hgl.1 hS hSt hSe ⟨by rw [hSe];show s.Epoch<s.Epoch+1;omega,by show s.Epoch+1≤_;omega⟩ (by show 1≤last+1;omega) hno hin hkne hlv hSg.2
  · exact (Zep hn (by show (1:Int)≠9;decide) (errR 0) rfl _).2.2.2.2.1 rfl
theorem Zmj {t : Zab} (h : Mp G last (pre ++ s :: t :: post)) (hlen : (Gs.length : Int) = G) (hg : t.Group = s.Group) (he : s.Epoch ≤ 1099511627774) (he' : t.Epoch ≤ 1099511627774) (x : Zaa)
    (hgl:GoodL (gr Gs (gi s.Group))) {S T:Zaa} (hS:lk Gs (gi s.Group) s.Shard=some S) (hT:lk Gs (gi s.Group) t.Shard=some T) (hSt:S.State=1) (hTt:T.State=1) (hSe:S.Epoch=s.Epoch) (hTe:T.Epoch=t.Epoch)
    (hto:S.To≠[]) (htf:S.To=T.From) (hj:S.Jobs.length+T.Jobs.length≤256) (hjo:ZdJ FM S.Seen T.Seen=some (S.Seen,0)) :
    StepW (mgA G last pre post s t) Gs x s.Group (mrgO s t) ⟨G,last,pre++ZaD s t::post,noP⟩
      (putG (putG Gs (gi s.Group) (Zc1 S T (mrgO s t))) (gi s.Group) (gone T)) x:=by
  have f:=Zay h
  have ft:1≤t.Epoch:=(h.2.2.2.2.2.2 t (by simp)).2.2.1
  have hn:=ZlP h hg he he' x
  have hst:s.Shard≠t.Shard:=by
    have:=h.2.2.2.2.2.1
    rw [List.pairwise_append,List.pairwise_cons] at this
    exact this.2.1.1 t List.mem_cons_self
  have hgr:gr (Gs.set (gi s.Group) (put (gr Gs (gi s.Group)) (Zc1 S T (mrgO s t)))) (gi s.Group)=put (gr Gs (gi s.Group)) (Zc1 S T (mrgO s t)):=by
    rw [ZlZ (lk_in hS),if_pos rfl]
  have e:putG (putG Gs (gi s.Group) (Zc1 S T (mrgO s t))) (gi s.Group) (gone T)=Gs.set (gi s.Group) (put (put (gr Gs (gi s.Group)) (Zc1 S T (mrgO s t))) (gone T)):=by
    unfold putG
    rw [hgr,Zg7]
  rw [e]
  refine Zeh hn f.2.2.2.2.1 (by omega) ⟨by show (2:Int)≤8;decide,by show (8:Int)≤8;decide⟩ hgl (s:=noS) (d:=1) ?_ ?_ (by decide) (.inr ⟨by decide,Zoo h hg he he'⟩)
  · unfold does
    rw [if_neg (by show ¬ (8:Int)=2;decide),if_neg (by show ¬ (8:Int)=3;decide),if_neg (by show ¬ (8:Int)=4;decide),if_neg (by show ¬ (8:Int)=5;decide),if_neg (by show ¬ (8:Int)=6;decide),if_neg (by show ¬ (8:Int)=7;decide)]
    refine ZoT (mrgO s t) (by have:=hgl.2.1;omega) hgl.1 hS hT hst hSt hTt hSe hTe ?_ hto htf hj hjo
    rw [hSe,hTe]
    show (if t.Epoch > s.Epoch then t.Epoch else s.Epoch)<(if t.Epoch > s.Epoch then t.Epoch else s.Epoch)+1∧(if t.Epoch > s.Epoch then t.Epoch else s.Epoch)+1≤1099511627776
    split<;>omega
  · exact (Zep hn (by show (1:Int)≠9;decide) (errR 0) rfl _).2.2.2.2.2 rfl
end
end Go.T
set_option linter.unusedVariables false
set_option linter.unusedSimpArgs false
namespace Go.T
open Go Go.Ab
theorem Zhv (key : List UInt8) : ∀ (l : List Zaf), (l.Pairwise fun a b => Op.bytesLess a.Name b.Name = true) →
    (l.takeWhile fun j=>Op.bytesLess j.Name key)=l.filter (fun j=>Op.bytesLess j.Name key)∧(l.dropWhile fun j=>Op.bytesLess j.Name key)=l.filter (fun j=>!Op.bytesLess j.Name key):=by
  intro l
  induction l with
  | nil=>intro _;exact ⟨rfl,rfl⟩
  | cons x l ih =>
    intro h
    rw [List.pairwise_cons] at h
    obtain ⟨h1,h2⟩:=ih h.2
    cases hc:Op.bytesLess x.Name key with
    | true =>
      rw [List.takeWhile_cons,List.dropWhile_cons,List.filter_cons,List.filter_cons]
      simp only [hc,if_true,Bool.not_true,h1,h2]
      simp
    | false =>
      have hn:∀ y,y∈l→Op.bytesLess y.Name key=false:=by
        intro y hy
        cases hy2:Op.bytesLess y.Name key with
        | false=>rfl
        | true=>have:=Zgg _ _ _ (h.1 y hy) hy2;rw [hc] at this;cases this
      have f1:l.filter (fun j=>Op.bytesLess j.Name key)=[]:=by
        rw [List.filter_eq_nil_iff]
        intro y hy;rw [hn y hy];simp
      have f2:l.filter (fun j=>!Op.bytesLess j.Name key)=l:=by
        rw [List.filter_eq_self]
        intro y hy;rw [hn y hy];rfl
      rw [List.takeWhile_cons,List.dropWhile_cons,List.filter_cons,List.filter_cons]
      simp only [hc,f1,f2,Bool.not_false,if_true]
      simp
theorem Zkr {jobs : List Zaf} (hj : jobs.Pairwise fun a b => Op.bytesLess a.Name b.Name = true) {fr ta key : List UInt8} (h1 : Op.bytesLess fr key = true) (h2 : ta = [] ∨ Op.bytesLess key ta = true) :
    (cutJ jobs fr ta).take (cutN (cutJ jobs fr ta) key)=cutJ jobs fr key∧(cutJ jobs fr ta).drop (cutN (cutJ jobs fr ta) key)=cutJ jobs key ta:=by
  obtain ⟨q1,q2⟩:=Zhv key (cutJ jobs fr ta) (hj.filter _)
  have hk:key≠[]:=by rintro rfl;rw [ZkA] at h1;cases h1
  have e1:(cutJ jobs fr ta).take (cutN (cutJ jobs fr ta) key)=(cutJ jobs fr ta).takeWhile fun j=>Op.bytesLess j.Name key:=by
    unfold cutN
    exact (List.prefix_iff_eq_take.1 (List.takeWhile_prefix _)).symm
  have e2:(cutJ jobs fr ta).drop (cutN (cutJ jobs fr ta) key)=(cutJ jobs fr ta).dropWhile fun j=>Op.bytesLess j.Name key:=by
    have h:=List.takeWhile_append_dropWhile (p:=fun j:Zaf=>Op.bytesLess j.Name key) (l:=cutJ jobs fr ta)
    have h':=List.take_append_drop (cutN (cutJ jobs fr ta) key) (cutJ jobs fr ta)
    rw [e1] at h'
    exact List.append_cancel_left (h'.trans h.symm)
  rw [e1,e2,q1,q2]
  unfold cutJ
  rw [List.filter_filter,List.filter_filter]
  constructor
  · congr 1
    funext j
    unfold inB
    have hk2:(key==([]:List UInt8))=false:=by simpa using hk
    rw [hk2,Bool.false_or]
    cases c:Op.bytesLess j.Name key with
    | false=>simp
    | true =>
      have:(ta==[] || Op.bytesLess j.Name ta)=true:=by
        rcases h2 with h2 | h2
        · rw [h2];rfl
        · rw [Zgg _ _ _ c h2];simp
      rw [this];simp
  · congr 1
    funext j
    unfold inB
    cases c:Op.bytesLess j.Name key with
    | true=>simp
    | false =>
      have:Op.bytesLess j.Name fr=false:=by
        cases d:Op.bytesLess j.Name fr with
        | false=>rfl
        | true=>have:=Zgg _ _ _ d h1;rw [c] at this;cases this
      rw [this];simp
theorem Zjd {G last:Int} {l:List Zab} (h:Mp G last l) {a b:Zab} (ha:a∈l) (hb:b∈l) (e:a.Shard=b.Shard):a=b:=by
  obtain ⟨i,hi,rfl⟩:=List.getElem_of_mem ha
  obtain ⟨j,hj,rfl⟩:=List.getElem_of_mem hb
  have:=Zm5 (a:=⟨G,last,l,noP⟩) (ZdO (a:=⟨G,last,l,noP⟩) h) hi hj e
  subst this;rfl
def Mono (Gs Gs':Grs):Prop:=∀ g id x,lk Gs g id=some x→∃ x',lk Gs' g id=some x'∧x.Epoch≤x'.Epoch∧(x.State=4→x'.State=4∨x.Epoch<x'.Epoch)
section
variable {jobs:List Zaf} {seen:List Zac} {G last:Int} {pre post:List Zab} {s:Zab} {Gs:Grs}
theorem ZoU (hst:Start jobs seen) {key:List UInt8} (hk:insB s key=true):Zed (spanS jobs seen s) (splO s last key)=spanS jobs seen (Zbt s key)∧ZgK (spanS jobs seen s) (splO s last key)=spanS jobs seen (Zcj s key (last+1)):=by
  unfold insB at hk
  simp only [Bool.and_eq_true,Bool.or_eq_true,beq_iff_eq] at hk
  obtain ⟨⟨k1,k2⟩,k3⟩:=hk
  obtain ⟨e1,e2⟩:=Zkr hst.1.2.1 k2 k3
  unfold Zed ZgK spanS Zbt Zcj splO
  constructor
  · rw [← e1]
  · rw [← e2]
theorem ZnL (hst : Start jobs seen) (hI : Inv jobs seen G last (pre ++ s :: post) Gs) {key : List UInt8} (hk : insB s key = true) (hl : (pre ++ s :: post).length < 16) (hlast : last < 1099511627776) (hlast0 : 1 ≤ last) (he : s.Epoch ≤ 1099511627774) :
    Inv jobs seen G (last+1) (pre++Zbt s key::Zcj s key (last+1)::post) (putG (putG Gs (gi s.Group) (spanS jobs seen (Zbt s key))) (gi s.Group) (spanS jobs seen (Zcj s key (last+1)))) ∧
    Mono Gs (putG (putG Gs (gi s.Group) (spanS jobs seen (Zbt s key))) (gi s.Group) (spanS jobs seen (Zcj s key (last+1)))):=by
  have f:=Zay hI.mp
  have hs:s∈pre++s::post:=List.mem_append_right _ List.mem_cons_self
  have h0:=hI.group hs
  have hmp:=ZoP hI.mp key hk hl hlast hlast0 he
  have hno:∀ g',lk Gs g' (last+1)=none:=by
    intro g'
    cases hq:lk Gs g' (last+1) with
    | none=>rfl
    | some x=>have:=(hI.base.2 _ _ _ hq).2.2;omega
  have hlow:Zbt s key∈pre++Zbt s key::Zcj s key (last+1)::post:=by simp
  have hup:Zcj s key (last+1)∈pre++Zbt s key::Zcj s key (last+1)::post:=by simp
  have hlk : ∀ g' id, lk (putG (putG Gs (gi s.Group) (spanS jobs seen (Zbt s key))) (gi s.Group) (spanS jobs seen (Zcj s key (last + 1)))) g' id =
      if g'=gi s.Group∧id=last+1 then some (spanS jobs seen (Zcj s key (last+1))) else if g'=gi s.Group∧id=s.Shard then some (spanS jobs seen (Zbt s key)) else lk Gs g' id:=by
    intro g' id
    rw [Zdp (by rw [Za5];exact h0),Zdp h0]
    rfl
  have hmem:∀ a,a∈pre++Zbt s key::Zcj s key (last+1)::post→a=Zbt s key∨a=Zcj s key (last+1)∨(a∈pre++s::post∧a.Shard≠s.Shard∧a.Shard≠last+1):=by
    intro a ha
    by_cases c1:a=Zbt s key
    · exact .inl c1
    by_cases c2:a=Zcj s key (last+1)
    · exact .inr (.inl c2)
    refine .inr (.inr ⟨?_,fun e=>c1 (Zjd hmp ha hlow e),fun e=>c2 (Zjd hmp ha hup e)⟩)
    simp only [List.mem_append,List.mem_cons] at ha ⊢
    rcases ha with ha | ha | ha | ha
    · exact .inl ha
    · exact absurd ha c1
    · exact absurd ha c2
    · exact .inr (.inr ha)
  have hgl:GoodS (spanS jobs seen (Zbt s key)):=Zf0 hst s.Shard (s.Epoch+1) 1 s.From key f.1 (by omega) (by omega) (by decide) (by decide) (ZfT hmp hlow)
  have hgu:GoodS (spanS jobs seen (Zcj s key (last+1))):=Zf0 hst (last+1) (s.Epoch+1) 1 key s.To (by omega) (by omega) (by omega) (by decide) (by decide) (ZfT hmp hup)
  have hb0:Base (last+1) Gs:=Zog hI.base (by omega)
  have hb1:Base (last+1) (putG Gs (gi s.Group) (spanS jobs seen (Zbt s key))):=Zgh hb0 h0 hgl f.1 (by show s.Shard≤last+1;omega)
  refine ⟨⟨hmp,by rw [Za5,Za5];exact hI.len,Zgh hb1 (by rw [Za5];exact h0) hgu (by show 1≤last+1;omega) (Int.le_refl _),fun a ha=>?_,fun g' id x hx=>?_,fun a ha g' x hg' hx=>?_,?_⟩,fun g' id x hx=>?_⟩
  · rw [hlk]
    rcases hmem a ha with rfl | rfl | ⟨ha',n1,n2⟩
    · rw [if_neg (fun e=>by have:s.Shard=last+1:=e.2;omega),if_pos ⟨rfl,rfl⟩]
    · rw [if_pos ⟨rfl,rfl⟩]
    · rw [if_neg (fun e=>n2 e.2),if_neg (fun e=>n1 e.2)]
      exact hI.home a ha'
  · rw [hlk] at hx
    split at hx
    · rename_i c
      obtain rfl:=Option.some.inj hx
      exact .inr ⟨_,hup,c.1.symm,rfl⟩
    · split at hx
      · rename_i c
        obtain rfl:=Option.some.inj hx
        exact .inr ⟨_,hlow,c.1.symm,rfl⟩
      · rename_i c1 c2
        rcases hI.rest _ _ _ hx with q | ⟨s2,h2,e2,e3⟩
        · exact .inl q
        · refine .inr ⟨s2,?_,e2,e3⟩
          have hne:s2≠s:=by
            rintro rfl
            have:=(ZbM hx).2
            rw [e3] at this
            exact c2 ⟨e2.symm,this.symm⟩
          simp only [List.mem_append,List.mem_cons] at h2 ⊢
          rcases h2 with h2 | h2 | h2
          · exact .inl h2
          · exact absurd h2 hne
          · exact .inr (.inr (.inr h2))
  · rw [hlk] at hx
    rcases hmem a ha with rfl | rfl | ⟨ha',n1,n2⟩
    · have hg2:g'≠gi s.Group:=hg'
      rw [if_neg (fun e=>hg2 e.1),if_neg (fun e=>hg2 e.1)] at hx
      have:=hI.old s hs g' x hg2 hx
      show x.Epoch<s.Epoch+1;omega
    · have hg2:g'≠gi s.Group:=hg'
      rw [if_neg (fun e=>hg2 e.1),if_neg (fun e=>hg2 e.1)] at hx
      have hx':lk Gs g' (last+1)=some x:=hx
      rw [hno g'] at hx';cases hx'
    · rw [if_neg (fun e=>n2 e.2),if_neg (fun e=>n1 e.2)] at hx
      exact hI.old a ha' g' x hg' hx
  · have c1:=Zfl hb0 h0 (spanS jobs seen (Zbt s key))
    have c2:=Zfl hb1 (by rw [Za5];exact h0) (spanS jobs seen (Zcj s key (last+1)))
    have e1:lk Gs (gi s.Group) (spanS jobs seen (Zbt s key)).Id=some (spanS jobs seen s):=hI.home s hs
    have e2:one lv (lk (putG Gs (gi s.Group) (spanS jobs seen (Zbt s key))) (gi s.Group) (spanS jobs seen (Zcj s key (last+1))).Id)=0:=by
      rw [Zdp h0,if_neg (fun e=>by have:last+1=s.Shard:=e.2;omega)]
      show one lv (lk Gs (gi s.Group) (last+1))=0
      rw [hno];rfl
    rw [e1] at c1
    have o1:one lv (some (spanS jobs seen s))=1:=rfl
    have o2:one lv (some (spanS jobs seen (Zbt s key)))=1:=rfl
    have o3:one lv (some (spanS jobs seen (Zcj s key (last+1))))=1:=rfl
    have:=hI.count
    have hl':(pre++Zbt s key::Zcj s key (last+1)::post).length=(pre++s::post).length+1:=by simp;omega
    rw [hl']
    omega
  · rw [hlk]
    by_cases c1:g'=gi s.Group∧id=last+1
    · obtain ⟨rfl,rfl⟩:=c1
      rw [hno] at hx;cases hx
    · rw [if_neg c1]
      by_cases c2:g'=gi s.Group∧id=s.Shard
      · rw [if_pos c2]
        obtain ⟨rfl,rfl⟩:=c2
        rw [hI.home s hs] at hx
        obtain rfl:=Option.some.inj hx
        exact ⟨_,rfl,by show s.Epoch≤s.Epoch+1;omega,fun e=>.inr (by show s.Epoch<s.Epoch+1;omega)⟩
      · rw [if_neg c2]
        exact ⟨x,hx,Int.le_refl _,fun e=>.inl e⟩
end
end Go.T
set_option linter.unusedVariables false
set_option linter.unusedSimpArgs false
namespace Go.T
open Go Go.Ab
theorem Zn1 {jobs : List Zaf} (hj : jobs.Pairwise fun a b => Op.bytesLess a.Name b.Name = true) {fr ta key : List UInt8} (h1 : Op.bytesLess fr key = true) (h2 : ta = [] ∨ Op.bytesLess key ta = true) :
    cutJ jobs fr key++cutJ jobs key ta=cutJ jobs fr ta:=by
  obtain ⟨e1,e2⟩:=Zkr hj h1 h2
  rw [← e1,← e2,List.take_append_drop]
section
variable {jobs:List Zaf} {seen:List Zac} {G last:Int} {pre post:List Zab} {s t:Zab} {Gs:Grs}
theorem Znx (h:Mp G last (pre++s::t::post)):nm s.To=true∧Op.bytesLess s.From s.To=true∧t.From=s.To∧(t.To=[]∨Op.bytesLess s.To t.To=true):=by
  have h1:pre.length+1<(pre++s::t::post).length:=by simp
  have u:=Zi1 (a:=⟨G,last,_,noP⟩) (ZdO (a:=⟨G,last,pre++s::t::post,noP⟩) h) pre.length h1
  have e1:(pre++s::t::post)[pre.length]'(by omega)=s:=by
    have:=Zg4 pre s (t::post)
    rw [List.getElem?_eq_getElem (by omega)] at this
    exact Option.some.inj this
  have e2:(pre++s::t::post)[pre.length+1]'h1=t:=by
    have:=ZjA pre s t post
    rw [List.getElem?_eq_getElem h1] at this
    exact Option.some.inj this
  simp only [e1,e2] at u
  refine ⟨u.1,u.2.1,u.2.2,?_⟩
  have r:=ZfT h (s:=t) (by simp)
  unfold rngB at r
  simp only [Bool.and_eq_true,Bool.or_eq_true,beq_iff_eq,Bool.not_eq_true',Bool.or_eq_false_iff,beq_eq_false_iff_ne] at r
  rcases r.2 with r | ⟨r1,r2⟩
  · exact .inl r
  · right
    rw [← u.2.2]
    rcases Zof t.From t.To with q | q | q
    · exact q
    · exact absurd q.symm r2
    · rw [r1] at q;cases q
theorem Zny (hst:Start jobs seen) (h:Mp G last (pre++s::t::post)):Zc1 (spanS jobs seen s) (spanS jobs seen t) (mrgO s t)=spanS jobs seen (ZaD s t):=by
  obtain ⟨_,u2,u3,u4⟩:=Znx h
  have e:cutJ jobs s.From s.To++cutJ jobs t.From t.To=cutJ jobs s.From t.To:=by
    rw [u3]
    exact Zn1 hst.1.2.1 u2 u4
  unfold Zc1 spanS ZaD mrgO
  rw [← e]
theorem ZnM (hst : Start jobs seen) (hI : Inv jobs seen G last (pre ++ s :: t :: post) Gs) (hg : t.Group = s.Group) (he : s.Epoch ≤ 1099511627774) (he' : t.Epoch ≤ 1099511627774) :
    Inv jobs seen G last (pre++ZaD s t::post) (putG (putG Gs (gi s.Group) (spanS jobs seen (ZaD s t))) (gi s.Group) (gone (spanS jobs seen t))) ∧
    Mono Gs (putG (putG Gs (gi s.Group) (spanS jobs seen (ZaD s t))) (gi s.Group) (gone (spanS jobs seen t))):=by
  have f:=Zay hI.mp
  have hs:s∈pre++s::t::post:=by simp
  have ht:t∈pre++s::t::post:=by simp
  have h0:=hI.group hs
  have hmp:=ZoQ hI.mp he he'
  have ft:=hI.mp.2.2.2.2.2.2 t ht
  have hst':t.Shard≠s.Shard:=by
    have:=hI.mp.2.2.2.2.2.1
    rw [List.pairwise_append,List.pairwise_cons] at this
    exact fun e=>this.2.1.1 t List.mem_cons_self e.symm
  have hM:ZaD s t∈pre++ZaD s t::post:=by simp
  have hep:s.Epoch<(ZaD s t).Epoch∧(ZaD s t).Epoch≤1099511627776:=by
    show s.Epoch<(if t.Epoch > s.Epoch then t.Epoch else s.Epoch)+1∧(if t.Epoch > s.Epoch then t.Epoch else s.Epoch)+1≤1099511627776
    split<;>omega
  have hlk : ∀ g' id, lk (putG (putG Gs (gi s.Group) (spanS jobs seen (ZaD s t))) (gi s.Group) (gone (spanS jobs seen t))) g' id =
      if g'=gi s.Group∧id=t.Shard then some (gone (spanS jobs seen t)) else if g'=gi s.Group∧id=s.Shard then some (spanS jobs seen (ZaD s t)) else lk Gs g' id:=by
    intro g' id
    rw [Zdp (by rw [Za5];exact h0),Zdp h0]
    rfl
  have hmem:∀ a,a∈pre++ZaD s t::post→a=ZaD s t∨(a∈pre++s::t::post∧a.Shard≠s.Shard∧a.Shard≠t.Shard):=by
    intro a ha
    by_cases c1:a=ZaD s t
    · exact .inl c1
    have hs1:a.Shard≠s.Shard:=fun e=>c1 (Zjd hmp ha hM e)
    have ha2:a∈pre∨a∈post:=by
      simp only [List.mem_append,List.mem_cons] at ha
      rcases ha with ha | ha | ha
      · exact .inl ha
      · exact absurd ha c1
      · exact .inr ha
    refine .inr ⟨by simp only [List.mem_append,List.mem_cons];rcases ha2 with q | q;exact .inl q;exact .inr (.inr (.inr q)),hs1,fun e=>?_⟩
    have hp:=hI.mp.2.2.2.2.2.1
    rw [List.pairwise_append,List.pairwise_cons,List.pairwise_cons] at hp
    rcases ha2 with q | q
    · exact hp.2.2 a q t (by simp) e
    · exact hp.2.1.2.1 a q e.symm
  have hgm:GoodS (spanS jobs seen (ZaD s t)):=Zf0 hst s.Shard _ 1 s.From t.To f.1 (by omega) hep.2 (by decide) (by decide) (ZfT hmp hM)
  have hgt:GoodS (gone (spanS jobs seen t)):=ZgV ft.1 ft.2.2.1 ft.2.2.2.1 (ZfT hI.mp ht)
  have hb1:Base last (putG Gs (gi s.Group) (spanS jobs seen (ZaD s t))):=Zgh hI.base h0 hgm f.1 f.2.1
  refine ⟨⟨hmp,by rw [Za5,Za5];exact hI.len,Zgh hb1 (by rw [Za5];exact h0) hgt ft.1 ft.2.1,fun a ha=>?_,fun g' id x hx=>?_,fun a ha g' x hg' hx=>?_,?_⟩,fun g' id x hx=>?_⟩
  · rw [hlk]
    rcases hmem a ha with rfl | ⟨ha',n1,n2⟩
    · rw [if_neg (fun e=>hst' e.2.symm),if_pos ⟨rfl,rfl⟩]
    · rw [if_neg (fun e=>n2 e.2),if_neg (fun e=>n1 e.2)]
      exact hI.home a ha'
  · rw [hlk] at hx
    split at hx
    · obtain rfl:=Option.some.inj hx
      exact .inl rfl
    · split at hx
      · rename_i c
        obtain rfl:=Option.some.inj hx
        exact .inr ⟨_,hM,c.1.symm,rfl⟩
      · rename_i c1 c2
        rcases hI.rest _ _ _ hx with q | ⟨s2,h2,e2,e3⟩
        · exact .inl q
        · have hid:=(ZbM hx).2
          rw [e3] at hid
          have n1:s2≠s:=by
            rintro rfl
            exact c2 ⟨e2.symm,hid.symm⟩
          have n2:s2≠t:=by
            rintro rfl
            exact c1 ⟨by rw [← e2,hg],hid.symm⟩
          refine .inr ⟨s2,?_,e2,e3⟩
          simp only [List.mem_append,List.mem_cons] at h2 ⊢
          rcases h2 with h2 | h2 | h2 | h2
          · exact .inl h2
          · exact absurd h2 n1
          · exact absurd h2 n2
          · exact .inr (.inr h2)
  · rw [hlk] at hx
    rcases hmem a ha with rfl | ⟨ha',n1,n2⟩
    · have hg2:g'≠gi s.Group:=hg'
      rw [if_neg (fun e=>hg2 e.1),if_neg (fun e=>hg2 e.1)] at hx
      have:=hI.old s hs g' x hg2 hx
      omega
    · rw [if_neg (fun e=>n2 e.2),if_neg (fun e=>n1 e.2)] at hx
      exact hI.old a ha' g' x hg' hx
  · have c1:=Zfl hI.base h0 (spanS jobs seen (ZaD s t))
    have c2:=Zfl hb1 (by rw [Za5];exact h0) (gone (spanS jobs seen t))
    have e1:lk Gs (gi s.Group) (spanS jobs seen (ZaD s t)).Id=some (spanS jobs seen s):=hI.home s hs
    have e2:lk (putG Gs (gi s.Group) (spanS jobs seen (ZaD s t))) (gi s.Group) (gone (spanS jobs seen t)).Id=some (spanS jobs seen t):=by
      rw [Zdp h0,if_neg (fun e=>hst' e.2)]
      have:=hI.home t ht
      rw [hg] at this
      exact this
    rw [e1] at c1
    rw [e2] at c2
    have o1:one lv (some (spanS jobs seen s))=1:=rfl
    have o2:one lv (some (spanS jobs seen (ZaD s t)))=1:=rfl
    have o3:one lv (some (spanS jobs seen t))=1:=rfl
    have o4:one lv (some (gone (spanS jobs seen t)))=0:=rfl
    have:=hI.count
    have hl':(pre++s::t::post).length=(pre++ZaD s t::post).length+1:=by simp;omega
    omega
  · rw [hlk]
    by_cases c1:g'=gi s.Group∧id=t.Shard
    · rw [if_pos c1]
      obtain ⟨rfl,rfl⟩:=c1
      have:=hI.home t ht
      rw [hg] at this
      rw [this] at hx
      obtain rfl:=Option.some.inj hx
      exact ⟨_,rfl,Int.le_refl _,fun _=>.inl rfl⟩
    · rw [if_neg c1]
      by_cases c2:g'=gi s.Group∧id=s.Shard
      · rw [if_pos c2]
        obtain ⟨rfl,rfl⟩:=c2
        rw [hI.home s hs] at hx
        obtain rfl:=Option.some.inj hx
        exact ⟨_,rfl,Int.le_of_lt hep.1,fun e=>.inr hep.1⟩
      · rw [if_neg c2]
        exact ⟨x,hx,Int.le_refl _,fun e=>.inl e⟩
end
end Go.T
set_option linter.unusedVariables false
set_option linter.unusedSimpArgs false
namespace Go.T
open Go Go.Ab
section
variable {jobs:List Zaf} {seen:List Zac} {G last:Int} {pre post:List Zab} {s t:Zab} {Gs:Grs} {g:Int}
theorem Zfp {last:Int} {Gs:Grs} (h:Base last Gs) (h0:0≤last) (hl:last≤63) (k:Nat) (hv:liveN (gr Gs k)≤16):GoodL (gr Gs k)∧(gr Gs k).length<64:=by
  obtain ⟨n,rfl⟩:∃ n:Nat,last=n:=⟨last.toNat,by omega⟩
  exact ⟨Zoh h (by omega) k hv,by have:=Zme h k;omega⟩
theorem Inv.live (h:Inv jobs seen G last (pre++s::post) Gs):liveT Gs≤16:=by
  have:=h.count
  have:=h.mp.2.2.2.1
  omega
theorem Inv.good (h:Inv jobs seen G last (pre++s::post) Gs) (hl:last≤63) (k:Nat):GoodL (gr Gs k)∧(gr Gs k).length<64:=by
  have f:=Zay h.mp
  have:=h.live
  have:=Zjg Gs k
  exact Zfp h.base (by omega) hl k (by omega)
def oF (s:Zab):Zae:=ord 2 s.Shard s.Epoch 0
def oI (jobs:List Zaf) (seen:List Zac) (s:Zab):Zae:=insO (ZbK (spanS jobs seen s) 2) (s.Epoch+1)
def oO (s:Zab):Zae:=ord 5 s.Shard (s.Epoch+1) 0
def oR (s:Zab):Zae:=ord 6 s.Shard s.Epoch 0
end
end Go.T
set_option linter.unusedVariables false
set_option linter.unusedSimpArgs false
namespace Go.T
open Go Go.Ab
theorem Inv.good' {jobs:List Zaf} {seen:List Zac} {G last:Int} {l:List Zab} {Gs:Grs} (h:Inv jobs seen G last l Gs) (h0:0≤last) (hl:last≤63) (k:Nat):GoodL (gr Gs k)∧(gr Gs k).length<64:=by
  have c:=h.count
  have:=h.mp.2.2.2.1
  have:=Zjg Gs k
  exact Zfp h.base h0 hl k (by omega)
end Go.T
