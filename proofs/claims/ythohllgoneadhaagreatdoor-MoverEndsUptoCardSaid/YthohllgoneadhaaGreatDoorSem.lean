/-
 SemMvE: the typed functions that the program's functions compute. Printed by a program.
-/
import Derived.Test.YthohllgoneadhaaGreatDoorTy
set_option linter.unusedVariables false
set_option maxRecDepth 200000
namespace Go.T
open Go Go.Ab Go.IntKind
def Zc2 (F:Nat) (s:(List UInt8)):Nat→Int→Option (((Bool) ⊕ Unit))
 | 0,_=>none
 | n_18+1,t8_19=>bif decide (t8_19<(s.length:Int)) then bif decide ((0:Int)≤t8_19) then (((List.map (fun (b_12:UInt8)=>(((UInt8.toNat b_12):Nat):Int)) s))[t8_19.toNat]?).bind fun y_23=>(((List.map (fun (b_12:UInt8)=>(((UInt8.toNat b_12):Nat):Int)) s))[t8_19.toNat]?).bind fun y_24=>Option.bind (bif decide (y_24<(97:Int)) then bif decide (y_24<(48:Int)) then bif y_24 != (45:Int) then some (y_24 != (46:Int)) else some false else bif decide ((57:Int)<y_24) then bif y_24 != (45:Int) then some (y_24 != (46:Int)) else some false else some false else bif decide ((122:Int)<y_24) then bif decide (y_24<(48:Int)) then bif y_24 != (45:Int) then some (y_24 != (46:Int)) else some false else bif decide ((57:Int)<y_24) then bif y_24 != (45:Int) then some (y_24 != (46:Int)) else some false else some false else some false) fun t33_25=>bif t33_25 then some (Sum.inl false) else (Zc2 F s n_18 (wrap .i64 (t8_19+(1:Int)))) else none else some (Sum.inr ())
def ZdB (F:Nat) (s:(List UInt8)):Option Bool :=
 bif decide ((s.length)≤LIM) then Option.bind (
 (Zc2 F s F (0:Int))
 ) fun o4=>Sum.elim (fun r=>some r) (fun _=>(
 (bif (decide ((1:Int)≤(s.length:Int))) then (
 some (decide ((s.length:Int)≤(16:Int)))
 ) else (
 some false
 ))
 )) o4 else none
def Zcp (F:Nat) (spans:(List Zab)):Nat→Int→Option (((Bool) ⊕ Unit))
 | 0,_=>none
 | n_29+1,t36_30=>bif decide (t36_30<(List.length (@cut (@List AV) none (some (Operand.tmp 33)) (List.map Zab.c spans) 0 (Int.toNat (wrap .i64 ((spans.length:Int) - (1:Int))))):Int)) then bif decide ((0:Int)≤t36_30) then (((List.take (Int.toNat (wrap .i64 ((List.length (List.map Zab.c spans):Int) - (1:Int)))) spans))[t36_30.toNat]?).bind fun y_35=>Option.bind ((ZdB F y_35.To).bind fun y_39=>bif !y_39 then some true else bif (@Op.bytesLess y_35.To y_35.From) || (y_35.To==y_35.From) then some true else bif decide ((0:Int)≤(wrap .i64 (t36_30+(1:Int)))) then spans[(Int.toNat (wrap .i64 (t36_30+(1:Int))))]?.bind fun y_40=>some (!(y_40.From==y_35.To)) else none) fun t62_38=>bif t62_38 then some (Sum.inl false) else (Zcp F spans n_29 (wrap .i64 (t36_30+(1:Int)))) else none else some (Sum.inr ())
def Zet (F:Nat) (spans:(List Zab)):Option Bool :=
 Option.bind (bif decide ((spans.length:Int)<(1:Int)) then some true else bif decide ((16:Int)<(spans.length:Int)) then some true else spans[(Int.toNat (0:Int))]?.bind fun y_3=>bif !(y_3.From==([]:List UInt8)) then some true else bif decide ((0:Int)≤(wrap .i64 ((spans.length:Int) - (1:Int)))) then spans[(Int.toNat (wrap .i64 ((List.length (List.map Zab.c spans):Int) - (1:Int))))]?.bind fun y_4=>some (!(y_4.To==([]:List UInt8))) else none) fun t29_2=>bif t29_2 then some false else bif decide ((0:Int)≤(wrap .i64 ((spans.length:Int) - (1:Int)))) then bif decide (0≤(Int.toNat (wrap .i64 ((spans.length:Int) - (1:Int))))) then bif decide ((Int.toNat (wrap .i64 ((spans.length:Int) - (1:Int))))≤(spans.length)) then Option.bind (
 (Zcp F spans F (0:Int))
 ) fun o5=>Sum.elim (fun r=>some r) (fun _=>(
 some true
 )) o5 else none else none else none
def ZeC (F:Nat) (s:Zab) (a1:Int):Option Bool :=
 some (s.Shard==a1)
def ZaA (F:Nat) (s:(List Zab)) (f0:Int):Nat→Int→Option (((Int) ⊕ Unit))
 | 0,_=>none
 | n_12+1,t8_13=>bif decide (t8_13<(s.length:Int)) then bif decide ((0:Int)≤t8_13) then s[t8_13.toNat]?.bind fun y_16=>(ZeC F y_16 f0).bind fun y_17=>bif y_17 then some (Sum.inl t8_13) else (ZaA F s f0 n_12 (wrap .i64 (t8_13+(1:Int)))) else none else some (Sum.inr ())
def Zbf (F:Nat) (s:(List Zab)) (f0:Int):Option Int :=
 Option.bind (
 (ZaA F s f0 F (0:Int))
 ) fun o0=>Sum.elim (fun r=>some r) (fun _=>(
 some (@Neg.neg Int Int.instNegInt (1:Int))
 )) o0
def Zco (F:Nat) (a:Zag) (shard:Int):Option Int :=
 (Zbf F a.Spans shard).bind fun y_0=>some y_0
def ZcE (F:Nat) (a:Zag) (s:Zab) (p:Zap):Option Bool :=
 Option.bind (bif p.Group==p.Past then some true else bif decide ((if (p.Past<p.Group) then p.Past else p.Group)<(1:Int)) then some true else bif decide (a.Groups<(if (p.Past > p.Group) then p.Past else p.Group)) then some true else bif p.Other != (0:Int) then some true else some (!(p.Key==([]:List UInt8)))) fun t39_0=>bif t39_0 then some false else bif p.Phase==(1:Int) then bif s.Group==p.Past then some (s.Epoch==p.Epoch) else some false else Option.bind (bif p.Phase==(2:Int) then some (p.Phase==(2:Int)) else some (p.Phase==(3:Int))) fun t56_2=>bif t56_2 then bif s.Group==p.Group then some ((wrap .i64 (s.Epoch - (1:Int)))==p.Epoch) else some false else bif p.Phase==(9:Int) then bif s.Group==p.Past then some ((wrap .i64 (s.Epoch - (2:Int)))==p.Epoch) else some false else some false
def ZdV (F:Nat) (s:Zab) (key:(List UInt8)):Option Bool :=
 (ZdB F key).bind fun y_0=>bif y_0 then bif !((@Op.bytesLess key s.From) || (key==s.From)) then bif s.To==([]:List UInt8) then some true else some (@Op.bytesLess key s.To) else some false else some false
def ZbR (F:Nat) (a:Zag):Option Bool :=
 bif (a.Plan.Kind==(0:Int)) && ((a.Plan.Phase==(0:Int)) && ((a.Plan.Shard==(0:Int)) && ((a.Plan.Other==(0:Int)) && ((a.Plan.Group==(0:Int)) && ((a.Plan.Past==(0:Int)) && ((a.Plan.Epoch==(0:Int)) && ((a.Plan.Key==([]:List UInt8)) && true))))))) then some true else (Zco F a a.Plan.Shard).bind fun y_0=>Option.bind (bif decide (y_0<(0:Int)) then some true else bif decide (a.Plan.Epoch<(1:Int)) then some true else some (decide ((1099511627774:Int)<a.Plan.Epoch))) fun t26_1=>bif t26_1 then some false else bif decide ((0:Int)≤y_0) then ((a.Spans)[y_0.toNat]?).bind fun y_2=>bif a.Plan.Kind==(1:Int) then (ZcE F a y_2 a.Plan).bind fun y_3=>some y_3 else Option.bind (bif a.Plan.Past != (0:Int) then some true else bif y_2.Group != a.Plan.Group then some true else bif a.Plan.Phase != (1:Int) then bif a.Plan.Phase != (9:Int) then some true else some ((wrap .i64 (y_2.Epoch - (2:Int))) != a.Plan.Epoch) else bif y_2.Epoch != a.Plan.Epoch then bif a.Plan.Phase != (9:Int) then some true else none else some false) fun t73_4=>bif t73_4 then some false else bif a.Plan.Kind==(2:Int) then bif a.Plan.Other==a.Last then (Zco F a a.Plan.Other).bind fun y_10=>bif decide (y_10<(0:Int)) then (ZdV F y_2 a.Plan.Key).bind fun y_11=>bif y_11 then some (decide ((List.length (List.map Zab.c a.Spans):Int)<(16:Int))) else some false else some false else some false else bif a.Plan.Kind==(3:Int) then bif a.Plan.Key==([]:List UInt8) then bif decide ((wrap .i64 (y_0+(1:Int)))<(a.Spans.length:Int)) then bif decide ((0:Int)≤(wrap .i64 (y_0+(1:Int)))) then ((a.Spans)[(Int.toNat (wrap .i64 (y_0+(1:Int))))]?).bind fun y_12=>bif y_12.Shard==a.Plan.Other then bif decide ((0:Int)≤(wrap .i64 (y_0+(1:Int)))) then ((a.Spans)[(Int.toNat (wrap .i64 (y_0+(1:Int))))]?).bind fun y_13=>bif y_13.Group==y_2.Group then bif decide ((0:Int)≤(wrap .i64 (y_0+(1:Int)))) then ((a.Spans)[(Int.toNat (wrap .i64 (y_0+(1:Int))))]?).bind fun y_14=>some (decide (y_14.Epoch≤(1099511627774:Int))) else none else some false else none else some false else none else some false else some false else some false else none
def ZcI (F:Nat) (a:Zag):Nat→Int→Option (((Bool) ⊕ Unit))
 | 0,_=>none
 | n_21+1,t27_22=>bif decide (t27_22<(a.Spans.length:Int)) then bif decide ((0:Int)≤t27_22) then ((a.Spans)[t27_22.toNat]?).bind fun y_26=>Option.bind (bif decide (y_26.Shard<(1:Int)) then some true else bif decide (a.Last<y_26.Shard) then some true else (Zco F a y_26.Shard).bind fun y_29=>bif y_29 != t27_22 then some true else bif decide (y_26.Epoch<(1:Int)) then some true else bif decide ((1099511627776:Int)<y_26.Epoch) then some true else bif decide (y_26.Group<(1:Int)) then some true else some (decide (a.Groups<y_26.Group))) fun t71_28=>bif t71_28 then some (Sum.inl false) else (ZcI F a n_21 (wrap .i64 (t27_22+(1:Int)))) else none else some (Sum.inr ())
def Zbb (F:Nat) (a:Zag):Option Bool :=
 Option.bind (bif decide (a.Groups<(1:Int)) then some true else bif decide ((8:Int)<a.Groups) then some true else bif decide ((1099511627776:Int)<a.Last) then some true else (Zet F a.Spans).bind fun y_2=>some (!y_2)) fun t23_1=>bif t23_1 then some false else Option.bind (
 (ZcI F a F (0:Int))
 ) fun o5=>Sum.elim (fun r=>some r) (fun _=>(
 (Option.bind (ZbR F a) fun y_30=>(
 some y_30
 ))
 )) o5
def ZeW (F:Nat) (groups:Int):Option (Zag×Int) :=
 (Zbb F (Zag.mk groups (1:Int) ((Zab.mk ([]:List UInt8) ([]:List UInt8) (1:Int) (1:Int) (1:Int))::[]) (Zap.mk (0:Int) (0:Int) (0:Int) (0:Int) (0:Int) (0:Int) (0:Int) ([]:List UInt8)))).bind fun y_0=>bif !y_0 then some ((Zag.mk (0:Int) (0:Int) [] (Zap.mk (0:Int) (0:Int) (0:Int) (0:Int) (0:Int) (0:Int) (0:Int) ([]:List UInt8))),(1:Int)) else some ((Zag.mk groups (1:Int) ((Zab.mk ([]:List UInt8) ([]:List UInt8) (1:Int) (1:Int) (1:Int))::[]) (Zap.mk (0:Int) (0:Int) (0:Int) (0:Int) (0:Int) (0:Int) (0:Int) ([]:List UInt8))),(0:Int))
def ZaZ (F:Nat) (s:List Zab):Option (List Zab) :=
 bif decide (s.length≤LIM) then some s else none
def Zeu (F:Nat) (a:Zag):Option Zag :=
 (ZaZ F a.Spans).bind fun y_0=>some (Zag.mk a.Groups a.Last y_0 a.Plan)
def Zgi (F:Nat) (a:Zag) (i:Int) (asked:Zap):Option (Zap×Int) :=
 bif decide ((0:Int)≤i) then ((a.Spans)[i.toNat]?).bind fun y_0=>Option.bind (bif decide ((1099511627774:Int)<y_0.Epoch) then some true else bif asked.Kind==(3:Int) then bif decide ((wrap .i64 (i+(1:Int)))<(a.Spans.length:Int)) then bif decide ((0:Int)≤(wrap .i64 (i+(1:Int)))) then ((a.Spans)[(Int.toNat (wrap .i64 (i+(1:Int))))]?).bind fun y_3=>some (decide ((1099511627774:Int)<y_3.Epoch)) else none else some false else some false) fun t50_2=>bif t50_2 then some ((Zap.mk asked.Kind (1:Int) y_0.Shard (0:Int) y_0.Group (0:Int) y_0.Epoch ([]:List UInt8)),(1:Int)) else Option.bind (
 (bif (asked.Kind==(1:Int)) then (
 (Option.bind (
 (bif (decide (asked.Group<(1:Int))) then (
 some true
 ) else (
 (bif (decide (a.Groups<asked.Group)) then (
 some true
 ) else (
 some (asked.Group==y_0.Group)
 ))
 ))
 ) fun t72_14=>(
 (bif t72_14 then (
 some (Sum.inl ((Zap.mk asked.Kind (1:Int) y_0.Shard (0:Int) y_0.Group (0:Int) y_0.Epoch ([]:List UInt8)),(1:Int)))
 ) else (
 some (Sum.inr ((0:Int),asked.Group,y_0.Group,([]:List UInt8)))
 ))
 ))
 ) else (
 (bif (asked.Kind==(2:Int)) then (
 (Option.bind (ZdV F y_0 asked.Key) fun y_15=>(
 (bif (!y_15) then (
 some (Sum.inl ((Zap.mk asked.Kind (1:Int) y_0.Shard (0:Int) y_0.Group (0:Int) y_0.Epoch ([]:List UInt8)),(170:Int)))
 ) else (
 (Option.bind (
 (bif (decide ((16:Int)≤(a.Spans.length:Int))) then (
 some true
 ) else (
 some (decide ((1099511627776:Int)≤a.Last))
 ))
 ) fun t96_16=>(
 (bif t96_16 then (
 some (Sum.inl ((Zap.mk asked.Kind (1:Int) y_0.Shard (0:Int) y_0.Group (0:Int) y_0.Epoch ([]:List UInt8)),(3:Int)))
 ) else (
 some (Sum.inr ((wrap .i64 (a.Last+(1:Int))),y_0.Group,(0:Int),asked.Key))
 ))
 ))
 ))
 ))
 ) else (
 (bif (asked.Kind==(3:Int)) then (
 (Option.bind (
 (bif ((wrap .i64 (i+(1:Int)))==(a.Spans.length:Int)) then (
 some true
 ) else (
 (bif decide ((0:Int)≤(wrap .i64 (i+(1:Int)))) then (
 (Option.bind ((a.Spans)[(Int.toNat (wrap .i64 (i+(1:Int))))]?) fun y_19=>(
 some (y_19.Group != y_0.Group)
 ))
 ) else none)
 ))
 ) fun t122_18=>(
 (bif t122_18 then (
 some (Sum.inl ((Zap.mk asked.Kind (1:Int) y_0.Shard (0:Int) y_0.Group (0:Int) y_0.Epoch ([]:List UInt8)),(170:Int)))
 ) else (
 (bif decide ((0:Int)≤(wrap .i64 (i+(1:Int)))) then (
 (Option.bind ((a.Spans)[(Int.toNat (wrap .i64 (i+(1:Int))))]?) fun y_20=>(
 some (Sum.inr (y_20.Shard,y_0.Group,(0:Int),([]:List UInt8)))
 ))
 ) else none)
 ))
 ))
 ) else (
 some (Sum.inr ((0:Int),y_0.Group,(0:Int),([]:List UInt8)))
 ))
 ))
 ))
 ) fun o4=>Sum.elim (fun r=>some r) (fun (c_10,c_11,c_12,c_13)=>(
 some ((Zap.mk asked.Kind (1:Int) y_0.Shard c_10 c_11 c_12 y_0.Epoch c_13),(0:Int))
 )) o4 else none
def ZbU (F:Nat) (a:Zag) (asked:Zap):Option (Zag×Int) :=
 (Zbb F a).bind fun y_0=>bif !y_0 then some ((Zag.mk (0:Int) (0:Int) [] (Zap.mk (0:Int) (0:Int) (0:Int) (0:Int) (0:Int) (0:Int) (0:Int) ([]:List UInt8))),(4:Int)) else (Zeu F a).bind fun y_1=>(Zco F y_1 asked.Shard).bind fun y_2=>bif y_1.Plan.Kind != (0:Int) then some (y_1,(180:Int)) else Option.bind (bif decide (asked.Kind<(1:Int)) then some true else some (decide ((3:Int)<asked.Kind))) fun t25_4=>bif t25_4 then some (y_1,(1:Int)) else bif decide (y_2<(0:Int)) then some (y_1,(172:Int)) else (Zgi F y_1 y_2 asked).bind fun y_5=>bif y_5.2 != (0:Int) then some (y_1,y_5.2) else Option.bind (bif y_5.1.Kind==(2:Int) then some (wrap .i64 (y_1.Last+(1:Int))) else some y_1.Last) fun c_6=>some ((Zag.mk y_1.Groups c_6 y_1.Spans y_5.1),(0:Int))
def Zfj (F:Nat) (p:Zap) (have_:Zaa):Option Bool :=
 bif have_.Id==p.Shard then some (have_.Epoch==p.Epoch) else some false
def Zdw (F:Nat) (p:Zap) (have_:Zaa):Option (Int×Zae) :=
 Option.bind (bif p.Kind==(1:Int) then some p.Past else some p.Group) fun group_0=>(Zfj F p have_).bind fun y_3=>bif !y_3 then some (group_0,(Zae.mk (2:Int) p.Shard p.Epoch (0:Int) (0:Int) ([]:List UInt8) (ZdI.mk (0:Int) (0:Int) (0:Int) ([]:List UInt8) ([]:List UInt8) ([]:List UInt8) ([]:List UInt8) (0:Int)) (Zaa.mk (0:Int) (0:Int) (0:Int) ([]:List UInt8) ([]:List UInt8) [] []))) else Option.bind (bif p.Kind==(1:Int) then some (have_.State != (4:Int)) else some false) fun t25_4=>bif t25_4 then some (p.Group,(Zae.mk (6:Int) p.Shard (wrap .i64 (p.Epoch+(1:Int))) (0:Int) (0:Int) ([]:List UInt8) (ZdI.mk (0:Int) (0:Int) (0:Int) ([]:List UInt8) ([]:List UInt8) ([]:List UInt8) ([]:List UInt8) (0:Int)) (Zaa.mk (0:Int) (0:Int) (0:Int) ([]:List UInt8) ([]:List UInt8) [] []))) else some (group_0,(Zae.mk (3:Int) p.Shard p.Epoch (0:Int) (wrap .i64 (p.Epoch+(2:Int))) ([]:List UInt8) (ZdI.mk (0:Int) (0:Int) (0:Int) ([]:List UInt8) ([]:List UInt8) ([]:List UInt8) ([]:List UInt8) (0:Int)) (Zaa.mk (0:Int) (0:Int) (0:Int) ([]:List UInt8) ([]:List UInt8) [] [])))
def Zai (F:Nat) (s:List Zaf):Option (List Zaf) :=
 bif decide (s.length≤LIM) then some s else none
def ZaG (F:Nat) (s:List Zac):Option (List Zac) :=
 bif decide (s.length≤LIM) then some s else none
def ZcN (F:Nat) (y_29:(List Zac)):Nat→Int→(List Zac)→Option ((List Zac))
 | 0,_,_=>none
 | n_51+1,t44_52,l_53=>bif decide (t44_52<(y_29.length:Int)) then bif decide ((0:Int)≤t44_52) then l_53[t44_52.toNat]?.bind fun y_59=>l_53[t44_52.toNat]?.bind fun y_60=>(Zai F y_60.Result.Jobs).bind fun y_61=>bif decide ((0:Int)≤t44_52) then l_53[t44_52.toNat]?.bind fun y_62=>l_53[t44_52.toNat]?.bind fun y_63=>(ZcN F y_29 n_51 (wrap .i64 (t44_52+(1:Int))) (List.set l_53 t44_52.toNat (Zac.mk y_63.Client y_63.Seq (Zam.mk y_63.Result.Err y_63.Result.Time y_61)))) else none else none else some l_53
def Zdn (F:Nat) (p:Zap) (have_:Zaa):Option (Int×Zae) :=
 Option.bind (
 (Option.bind (
 (bif (p.Phase==(1:Int)) then (
 (Option.bind (Zfj F p have_) fun y_27=>(
 some (!y_27)
 ))
 ) else (
 some false
 ))
 ) fun t7_26=>(
 (bif t7_26 then (
 some (Sum.inl (p.Past,(Zae.mk (2:Int) p.Shard p.Epoch (0:Int) (0:Int) ([]:List UInt8) (ZdI.mk (0:Int) (0:Int) (0:Int) ([]:List UInt8) ([]:List UInt8) ([]:List UInt8) ([]:List UInt8) (0:Int)) (Zaa.mk (0:Int) (0:Int) (0:Int) ([]:List UInt8) ([]:List UInt8) [] []))))
 ) else (
 (bif (p.Phase==(1:Int)) then (
 (Option.bind (Zai F have_.Jobs) fun y_28=>(
 (Option.bind (ZaG F have_.Seen) fun y_29=>(
 (Option.bind (
 (ZcN F y_29 F (0:Int) y_29)
 ) fun l_40=>(
 some (Sum.inl (p.Group,(Zae.mk (4:Int) (0:Int) (0:Int) (0:Int) (0:Int) ([]:List UInt8) (ZdI.mk (0:Int) (0:Int) (0:Int) ([]:List UInt8) ([]:List UInt8) ([]:List UInt8) ([]:List UInt8) (0:Int)) (Zaa.mk have_.Id (wrap .i64 (p.Epoch+(1:Int))) (3:Int) have_.From have_.To y_28 l_40))))
 ))
 ))
 ))
 ) else (
 (bif (p.Phase==(2:Int)) then (
 some (Sum.inl (p.Group,(Zae.mk (5:Int) p.Shard (wrap .i64 (p.Epoch+(1:Int))) (0:Int) (0:Int) ([]:List UInt8) (ZdI.mk (0:Int) (0:Int) (0:Int) ([]:List UInt8) ([]:List UInt8) ([]:List UInt8) ([]:List UInt8) (0:Int)) (Zaa.mk (0:Int) (0:Int) (0:Int) ([]:List UInt8) ([]:List UInt8) [] []))))
 ) else (
 some (Sum.inr ())
 ))
 ))
 ))
 ))
 ) fun o2=>Sum.elim (fun r=>some r) (fun _=>(
 some (p.Past,(Zae.mk (6:Int) p.Shard p.Epoch (0:Int) (0:Int) ([]:List UInt8) (ZdI.mk (0:Int) (0:Int) (0:Int) ([]:List UInt8) ([]:List UInt8) ([]:List UInt8) ([]:List UInt8) (0:Int)) (Zaa.mk (0:Int) (0:Int) (0:Int) ([]:List UInt8) ([]:List UInt8) [] [])))
 )) o2
def Ze4 (F:Nat) (s:Zab) (b:Zap):Option Bool :=
 some (s.Shard==b.Other)
def Zav (F:Nat) (s:(List Zab)) (b:Zap):Nat→Int→Option (((Int) ⊕ Unit))
 | 0,_=>none
 | n_12+1,t8_13=>bif decide (t8_13<(s.length:Int)) then bif decide ((0:Int)≤t8_13) then s[t8_13.toNat]?.bind fun y_16=>(Ze4 F y_16 b).bind fun y_17=>bif y_17 then some (Sum.inl t8_13) else (Zav F s b n_12 (wrap .i64 (t8_13+(1:Int)))) else none else some (Sum.inr ())
def ZaW (F:Nat) (s:(List Zab)) (b:Zap):Option Int :=
 Option.bind (
 (Zav F s b F (0:Int))
 ) fun o0=>Sum.elim (fun r=>some r) (fun _=>(
 some (@Neg.neg Int Int.instNegInt (1:Int))
 )) o0
def ZaL (F:Nat) (a:Zag) (have_:Zaa):Option (Int×Zae×Bool) :=
 Option.bind ((Zbb F a).bind fun y_2=>bif !y_2 then some true else some (a.Plan.Kind==(0:Int))) fun t20_1=>bif t20_1 then some ((0:Int),(Zae.mk (0:Int) (0:Int) (0:Int) (0:Int) (0:Int) ([]:List UInt8) (ZdI.mk (0:Int) (0:Int) (0:Int) ([]:List UInt8) ([]:List UInt8) ([]:List UInt8) ([]:List UInt8) (0:Int)) (Zaa.mk (0:Int) (0:Int) (0:Int) ([]:List UInt8) ([]:List UInt8) [] [])),false) else Option.bind (bif a.Plan.Phase==(9:Int) then (Zdw F a.Plan have_).bind fun y_33=>some (y_33.1,y_33.2.Kind,y_33.2.Shard,y_33.2.Epoch,y_33.2.Other,y_33.2.Past,y_33.2.Key,y_33.2.Cmd.Kind,y_33.2.Cmd.Client,y_33.2.Cmd.Seq,y_33.2.Cmd.Name,y_33.2.Cmd.Expr,y_33.2.Cmd.Zone,y_33.2.Cmd.Token,y_33.2.Cmd.Time,y_33.2.State.Id,y_33.2.State.Epoch,y_33.2.State.State,y_33.2.State.From,y_33.2.State.To,y_33.2.State.Jobs,y_33.2.State.Seen) else bif a.Plan.Kind==(1:Int) then (Zdn F a.Plan have_).bind fun y_34=>some (y_34.1,y_34.2.Kind,y_34.2.Shard,y_34.2.Epoch,y_34.2.Other,y_34.2.Past,y_34.2.Key,y_34.2.Cmd.Kind,y_34.2.Cmd.Client,y_34.2.Cmd.Seq,y_34.2.Cmd.Name,y_34.2.Cmd.Expr,y_34.2.Cmd.Zone,y_34.2.Cmd.Token,y_34.2.Cmd.Time,y_34.2.State.Id,y_34.2.State.Epoch,y_34.2.State.State,y_34.2.State.From,y_34.2.State.To,y_34.2.State.Jobs,y_34.2.State.Seen) else bif a.Plan.Kind==(2:Int) then some (a.Plan.Group,(7:Int),a.Plan.Shard,a.Plan.Epoch,a.Plan.Other,(wrap .i64 (a.Plan.Epoch+(1:Int))),a.Plan.Key,(0:Int),(0:Int),(0:Int),([]:List UInt8),([]:List UInt8),([]:List UInt8),([]:List UInt8),(0:Int),(0:Int),(0:Int),(0:Int),([]:List UInt8),([]:List UInt8),[],[]) else (ZaW F a.Spans a.Plan).bind fun y_35=>bif decide ((0:Int)≤y_35) then ((a.Spans)[y_35.toNat]?).bind fun y_36=>some (a.Plan.Group,(8:Int),a.Plan.Shard,a.Plan.Epoch,a.Plan.Other,(wrap .i64 ((if (y_36.Epoch > a.Plan.Epoch) then y_36.Epoch else a.Plan.Epoch)+(1:Int))),([]:List UInt8),(0:Int),(0:Int),(0:Int),([]:List UInt8),([]:List UInt8),([]:List UInt8),([]:List UInt8),(0:Int),(0:Int),y_36.Epoch,(0:Int),([]:List UInt8),([]:List UInt8),[],[]) else none) fun (group_11,c_12,c_13,c_14,c_15,c_16,c_17,c_18,c_19,c_20,c_21,c_22,c_23,c_24,c_25,c_26,c_27,c_28,c_29,c_30,c_31,c_32)=>some (group_11,(Zae.mk c_12 c_13 c_14 c_15 c_16 c_17 (ZdI.mk c_18 c_19 c_20 c_21 c_22 c_23 c_24 c_25) (Zaa.mk c_26 c_27 c_28 c_29 c_30 c_31 c_32)),true)
def Zbj (F:Nat) (a:Zag) (have_:Zaa) (r_:Zam) (s:Zaa):Option (Zaa×Int) :=
 (ZaL F a have_).bind fun y_0=>bif !y_0.2.2 then some (have_,(0:Int)) else bif decide (((List.length (((AV.int .i64 (0:Int)),(AV.agg ((AV.int .i64 have_.Id)::((AV.int .i64 have_.Epoch)::((AV.int .i64 have_.State)::((AV.str have_.From)::((AV.str have_.To)::((AV.sl (List.map Zaf.c have_.Jobs))::((AV.sl (List.map Zac.c have_.Seen))::((AV.int .i64 (1:Int))::[]))))))))))::[]))+1)≤LIM) then bif decide (((List.length (((AV.int .i64 (0:Int)),(AV.agg ((AV.int .i64 have_.Id)::((AV.int .i64 have_.Epoch)::((AV.int .i64 have_.State)::((AV.str have_.From)::((AV.str have_.To)::((AV.sl (List.map Zaf.c have_.Jobs))::((AV.sl (List.map Zac.c have_.Seen))::((AV.int .i64 (1:Int))::[]))))))))))::(((AV.int .i64 (3:Int)),(AV.agg ((AV.int .i64 have_.Id)::((AV.int .i64 have_.Epoch)::((AV.int .i64 have_.State)::((AV.str have_.From)::((AV.str have_.To)::((AV.sl (List.map Zaf.c have_.Jobs))::((AV.sl (List.map Zac.c have_.Seen))::((AV.int .i64 (@Neg.neg Int Int.instNegInt (1:Int)))::[]))))))))))::[])))+1)≤LIM) then bif decide (((List.length (((AV.int .i64 (0:Int)),(AV.agg ((AV.int .i64 have_.Id)::((AV.int .i64 have_.Epoch)::((AV.int .i64 have_.State)::((AV.str have_.From)::((AV.str have_.To)::((AV.sl (List.map Zaf.c have_.Jobs))::((AV.sl (List.map Zac.c have_.Seen))::((AV.int .i64 (1:Int))::[]))))))))))::(((AV.int .i64 (3:Int)),(AV.agg ((AV.int .i64 have_.Id)::((AV.int .i64 have_.Epoch)::((AV.int .i64 have_.State)::((AV.str have_.From)::((AV.str have_.To)::((AV.sl (List.map Zaf.c have_.Jobs))::((AV.sl (List.map Zac.c have_.Seen))::((AV.int .i64 (@Neg.neg Int Int.instNegInt (1:Int)))::[]))))))))))::(((AV.int .i64 (1:Int)),(AV.agg ((AV.int .i64 have_.Id)::((AV.int .i64 have_.Epoch)::((AV.int .i64 have_.State)::((AV.str have_.From)::((AV.str have_.To)::((AV.sl (List.map Zaf.c have_.Jobs))::((AV.sl (List.map Zac.c have_.Seen))::((AV.int .i64 (@Neg.neg Int Int.instNegInt (1:Int)))::[]))))))))))::[]))))+1)≤LIM) then bif decide (((List.length (((AV.int .i64 (0:Int)),(AV.agg ((AV.int .i64 have_.Id)::((AV.int .i64 have_.Epoch)::((AV.int .i64 have_.State)::((AV.str have_.From)::((AV.str have_.To)::((AV.sl (List.map Zaf.c have_.Jobs))::((AV.sl (List.map Zac.c have_.Seen))::((AV.int .i64 (1:Int))::[]))))))))))::(((AV.int .i64 (3:Int)),(AV.agg ((AV.int .i64 have_.Id)::((AV.int .i64 have_.Epoch)::((AV.int .i64 have_.State)::((AV.str have_.From)::((AV.str have_.To)::((AV.sl (List.map Zaf.c have_.Jobs))::((AV.sl (List.map Zac.c have_.Seen))::((AV.int .i64 (@Neg.neg Int Int.instNegInt (1:Int)))::[]))))))))))::(((AV.int .i64 (1:Int)),(AV.agg ((AV.int .i64 have_.Id)::((AV.int .i64 have_.Epoch)::((AV.int .i64 have_.State)::((AV.str have_.From)::((AV.str have_.To)::((AV.sl (List.map Zaf.c have_.Jobs))::((AV.sl (List.map Zac.c have_.Seen))::((AV.int .i64 (@Neg.neg Int Int.instNegInt (1:Int)))::[]))))))))))::(((AV.int .i64 (4:Int)),(AV.agg ((AV.int .i64 have_.Id)::((AV.int .i64 have_.Epoch)::((AV.int .i64 have_.State)::((AV.str have_.From)::((AV.str have_.To)::((AV.sl (List.map Zaf.c have_.Jobs))::((AV.sl (List.map Zac.c have_.Seen))::((AV.int .i64 (@Neg.neg Int Int.instNegInt (1:Int)))::[]))))))))))::[])))))+1)≤LIM) then bif decide (((List.length (((AV.int .i64 (0:Int)),(AV.agg ((AV.int .i64 have_.Id)::((AV.int .i64 have_.Epoch)::((AV.int .i64 have_.State)::((AV.str have_.From)::((AV.str have_.To)::((AV.sl (List.map Zaf.c have_.Jobs))::((AV.sl (List.map Zac.c have_.Seen))::((AV.int .i64 (3:Int))::[]))))))))))::[]))+1)≤LIM) then bif a.Plan.Phase==(9:Int) then bif decide (((List.length (((AV.int .i64 (0:Int)),(AV.agg ((AV.int .i64 s.Id)::((AV.int .i64 s.Epoch)::((AV.int .i64 s.State)::((AV.str s.From)::((AV.str s.To)::((AV.sl (List.map Zaf.c s.Jobs))::((AV.sl (List.map Zac.c s.Seen))::((AV.int .i64 (0:Int))::[]))))))))))::[]))+1)≤LIM) then bif decide (((List.length (((AV.int .i64 (0:Int)),(AV.agg ((AV.int .i64 a.Plan.Shard)::((AV.int .i64 a.Plan.Epoch)::((AV.int .i64 (4:Int))::((AV.str ([]:List UInt8))::((AV.str ([]:List UInt8))::(AV.esl::(AV.esl::((AV.int .i64 (0:Int))::[]))))))))))::[]))+1)≤LIM) then Option.bind (bif y_0.2.1.Kind==(7:Int) then some true else some (y_0.2.1.Kind==(8:Int))) fun t93_1=>bif t93_1 then bif y_0.2.1.Kind==(2:Int) then bif (y_0.2.1.Kind==(7:Int)) then none else (
 (bif (y_0.2.1.Kind==y_0.2.1.Kind) then (
 (bif (r_.Err==(0:Int)) then (
 some (have_,(1:Int))
 ) else (
 some (have_,(0:Int))
 ))
 ) else (
 (bif (y_0.2.1.Kind==(3:Int)) then none else (
 (bif (y_0.2.1.Kind==(4:Int)) then none else (
 (bif (y_0.2.1.Kind==(5:Int)) then none else (
 (bif (y_0.2.1.Kind==(6:Int)) then none else (
 some (have_,(0:Int))
 ))
 ))
 ))
 ))
 ))
 ) else bif y_0.2.1.Kind==(3:Int) then bif (y_0.2.1.Kind==(7:Int)) then none else (
 (bif (y_0.2.1.Kind==(2:Int)) then none else (
 (bif (y_0.2.1.Kind==y_0.2.1.Kind) then (
 (bif (r_.Err==(0:Int)) then (
 some (have_,(1:Int))
 ) else (
 some (have_,(0:Int))
 ))
 ) else (
 (bif (y_0.2.1.Kind==(4:Int)) then none else (
 (bif (y_0.2.1.Kind==(5:Int)) then none else (
 (bif (y_0.2.1.Kind==(6:Int)) then none else (
 some (have_,(0:Int))
 ))
 ))
 ))
 ))
 ))
 ) else bif y_0.2.1.Kind==(4:Int) then bif (y_0.2.1.Kind==(7:Int)) then none else (
 (bif (y_0.2.1.Kind==(2:Int)) then none else (
 (bif (y_0.2.1.Kind==(3:Int)) then none else (
 (bif (y_0.2.1.Kind==y_0.2.1.Kind) then (
 (bif (r_.Err==(0:Int)) then (
 some (have_,(1:Int))
 ) else (
 some (have_,(0:Int))
 ))
 ) else (
 (bif (y_0.2.1.Kind==(5:Int)) then none else (
 (bif (y_0.2.1.Kind==(6:Int)) then none else (
 some (have_,(0:Int))
 ))
 ))
 ))
 ))
 ))
 ) else bif y_0.2.1.Kind==(5:Int) then bif (y_0.2.1.Kind==(7:Int)) then none else (
 (bif (y_0.2.1.Kind==(2:Int)) then none else (
 (bif (y_0.2.1.Kind==(3:Int)) then none else (
 (bif (y_0.2.1.Kind==(4:Int)) then none else (
 (bif (y_0.2.1.Kind==y_0.2.1.Kind) then (
 (bif (r_.Err==(0:Int)) then (
 some (have_,(1:Int))
 ) else (
 some (have_,(0:Int))
 ))
 ) else (
 (bif (y_0.2.1.Kind==(6:Int)) then none else (
 some (have_,(0:Int))
 ))
 ))
 ))
 ))
 ))
 ) else bif y_0.2.1.Kind==(6:Int) then bif (y_0.2.1.Kind==(7:Int)) then none else (
 (bif (y_0.2.1.Kind==(2:Int)) then none else (
 (bif (y_0.2.1.Kind==(3:Int)) then none else (
 (bif (y_0.2.1.Kind==(4:Int)) then none else (
 (bif (y_0.2.1.Kind==(5:Int)) then none else (
 (bif (y_0.2.1.Kind==y_0.2.1.Kind) then (
 (bif (r_.Err==(0:Int)) then (
 some (have_,(1:Int))
 ) else (
 some (have_,(0:Int))
 ))
 ) else (
 some (have_,(0:Int))
 ))
 ))
 ))
 ))
 ))
 ) else bif y_0.2.1.Kind==(7:Int) then bif (y_0.2.1.Kind==(2:Int)) then none else (
 (bif (y_0.2.1.Kind==(3:Int)) then none else (
 (bif (y_0.2.1.Kind==(4:Int)) then none else (
 (bif (y_0.2.1.Kind==(5:Int)) then none else (
 (bif (y_0.2.1.Kind==(6:Int)) then none else (
 (bif (y_0.2.1.Kind==y_0.2.1.Kind) then (
 (bif decide (((List.length (((AV.int .i64 (0:Int)),(AV.agg ((AV.int .i64 have_.Id)::((AV.int .i64 have_.Epoch)::((AV.int .i64 have_.State)::((AV.str have_.From)::((AV.str have_.To)::((AV.sl (List.map Zaf.c have_.Jobs))::((AV.sl (List.map Zac.c have_.Seen))::((AV.int .i64 (1:Int))::[]))))))))))::[]))+1)≤LIM) then (
 (bif (y_0.2.1.Kind==(2:Int)) then none else (
 (bif (y_0.2.1.Kind==(3:Int)) then none else (
 (bif (y_0.2.1.Kind==(4:Int)) then none else (
 (bif (y_0.2.1.Kind==(5:Int)) then none else (
 (bif (y_0.2.1.Kind==(6:Int)) then none else (
 (bif (y_0.2.1.Kind==y_0.2.1.Kind) then (
 (bif (r_.Err==(0:Int)) then (
 some (have_,(1:Int))
 ) else (
 (bif (r_.Err==(3:Int)) then (
 some ((Zaa.mk (0:Int) (0:Int) (0:Int) ([]:List UInt8) ([]:List UInt8) [] []),(@Neg.neg Int Int.instNegInt (1:Int)))
 ) else (
 some (have_,(0:Int))
 ))
 ))
 ) else (
 none
 ))
 ))
 ))
 ))
 ))
 ))
 ) else none)
 ) else (
 none
 ))
 ))
 ))
 ))
 ))
 ) else bif (y_0.2.1.Kind==(2:Int)) then none else (
 (bif (y_0.2.1.Kind==(3:Int)) then none else (
 (bif (y_0.2.1.Kind==(4:Int)) then none else (
 (bif (y_0.2.1.Kind==(5:Int)) then none else (
 (bif (y_0.2.1.Kind==(6:Int)) then none else (
 (bif (y_0.2.1.Kind==y_0.2.1.Kind) then (
 (bif (r_.Err==(0:Int)) then (
 some (have_,(1:Int))
 ) else (
 some (have_,(0:Int))
 ))
 ) else (
 some (have_,(0:Int))
 ))
 ))
 ))
 ))
 ))
 ) else bif y_0.2.1.Kind==(7:Int) then bif (y_0.2.1.Kind==(2:Int)) then none else (
 (bif (y_0.2.1.Kind==(3:Int)) then none else (
 (bif (y_0.2.1.Kind==(4:Int)) then none else (
 (bif (y_0.2.1.Kind==(5:Int)) then none else (
 (bif (y_0.2.1.Kind==(6:Int)) then none else (
 none
 ))
 ))
 ))
 ))
 ) else bif y_0.2.1.Kind==(2:Int) then bif r_.Err==(0:Int) then some (s,(0:Int)) else bif r_.Err==(171:Int) then some ((Zaa.mk a.Plan.Shard a.Plan.Epoch (0:Int) ([]:List UInt8) ([]:List UInt8) [] []),(0:Int)) else some (have_,(0:Int)) else bif y_0.2.1.Kind==(3:Int) then bif r_.Err==(0:Int) then some ((Zaa.mk (0:Int) (0:Int) (0:Int) ([]:List UInt8) ([]:List UInt8) [] []),(9:Int)) else some (have_,(0:Int)) else bif y_0.2.1.Kind==(4:Int) then bif r_.Err==(0:Int) then some (have_,(1:Int)) else bif r_.Err==(3:Int) then some (have_,(@Neg.neg Int Int.instNegInt (1:Int))) else bif r_.Err==(1:Int) then some (have_,(@Neg.neg Int Int.instNegInt (1:Int))) else bif r_.Err==(4:Int) then some (have_,(@Neg.neg Int Int.instNegInt (1:Int))) else bif r_.Err==(171:Int) then some (have_,(@Neg.neg Int Int.instNegInt (1:Int))) else some (have_,(0:Int)) else bif y_0.2.1.Kind==(5:Int) then bif r_.Err==(0:Int) then some ((Zaa.mk (0:Int) (0:Int) (0:Int) ([]:List UInt8) ([]:List UInt8) [] []),(2:Int)) else some (have_,(0:Int)) else bif y_0.2.1.Kind==(6:Int) then bif r_.Err==(0:Int) then some ((Zaa.mk a.Plan.Shard a.Plan.Epoch (4:Int) ([]:List UInt8) ([]:List UInt8) [] []),(0:Int)) else bif r_.Err==(171:Int) then some ((Zaa.mk a.Plan.Shard a.Plan.Epoch (4:Int) ([]:List UInt8) ([]:List UInt8) [] []),(0:Int)) else some (have_,(0:Int)) else some (have_,(0:Int)) else none else none else Option.bind (bif y_0.2.1.Kind==(7:Int) then some true else some (y_0.2.1.Kind==(8:Int))) fun t93_2=>bif t93_2 then bif y_0.2.1.Kind==(2:Int) then bif (y_0.2.1.Kind==(7:Int)) then none else (
 (bif (y_0.2.1.Kind==y_0.2.1.Kind) then (
 (bif (r_.Err==(0:Int)) then (
 some (have_,(1:Int))
 ) else (
 some (have_,(0:Int))
 ))
 ) else (
 (bif (y_0.2.1.Kind==(3:Int)) then none else (
 (bif (y_0.2.1.Kind==(4:Int)) then none else (
 (bif (y_0.2.1.Kind==(5:Int)) then none else (
 (bif (y_0.2.1.Kind==(6:Int)) then none else (
 some (have_,(0:Int))
 ))
 ))
 ))
 ))
 ))
 ) else bif y_0.2.1.Kind==(3:Int) then bif (y_0.2.1.Kind==(7:Int)) then none else (
 (bif (y_0.2.1.Kind==(2:Int)) then none else (
 (bif (y_0.2.1.Kind==y_0.2.1.Kind) then (
 (bif (r_.Err==(0:Int)) then (
 some (have_,(1:Int))
 ) else (
 some (have_,(0:Int))
 ))
 ) else (
 (bif (y_0.2.1.Kind==(4:Int)) then none else (
 (bif (y_0.2.1.Kind==(5:Int)) then none else (
 (bif (y_0.2.1.Kind==(6:Int)) then none else (
 some (have_,(0:Int))
 ))
 ))
 ))
 ))
 ))
 ) else bif y_0.2.1.Kind==(4:Int) then bif (y_0.2.1.Kind==(7:Int)) then none else (
 (bif (y_0.2.1.Kind==(2:Int)) then none else (
 (bif (y_0.2.1.Kind==(3:Int)) then none else (
 (bif (y_0.2.1.Kind==y_0.2.1.Kind) then (
 (bif (r_.Err==(0:Int)) then (
 some (have_,(1:Int))
 ) else (
 some (have_,(0:Int))
 ))
 ) else (
 (bif (y_0.2.1.Kind==(5:Int)) then none else (
 (bif (y_0.2.1.Kind==(6:Int)) then none else (
 some (have_,(0:Int))
 ))
 ))
 ))
 ))
 ))
 ) else bif y_0.2.1.Kind==(5:Int) then bif (y_0.2.1.Kind==(7:Int)) then none else (
 (bif (y_0.2.1.Kind==(2:Int)) then none else (
 (bif (y_0.2.1.Kind==(3:Int)) then none else (
 (bif (y_0.2.1.Kind==(4:Int)) then none else (
 (bif (y_0.2.1.Kind==y_0.2.1.Kind) then (
 (bif (r_.Err==(0:Int)) then (
 some (have_,(1:Int))
 ) else (
 some (have_,(0:Int))
 ))
 ) else (
 (bif (y_0.2.1.Kind==(6:Int)) then none else (
 some (have_,(0:Int))
 ))
 ))
 ))
 ))
 ))
 ) else bif y_0.2.1.Kind==(6:Int) then bif (y_0.2.1.Kind==(7:Int)) then none else (
 (bif (y_0.2.1.Kind==(2:Int)) then none else (
 (bif (y_0.2.1.Kind==(3:Int)) then none else (
 (bif (y_0.2.1.Kind==(4:Int)) then none else (
 (bif (y_0.2.1.Kind==(5:Int)) then none else (
 (bif (y_0.2.1.Kind==y_0.2.1.Kind) then (
 (bif (r_.Err==(0:Int)) then (
 some (have_,(1:Int))
 ) else (
 some (have_,(0:Int))
 ))
 ) else (
 some (have_,(0:Int))
 ))
 ))
 ))
 ))
 ))
 ) else bif y_0.2.1.Kind==(7:Int) then bif (y_0.2.1.Kind==(2:Int)) then none else (
 (bif (y_0.2.1.Kind==(3:Int)) then none else (
 (bif (y_0.2.1.Kind==(4:Int)) then none else (
 (bif (y_0.2.1.Kind==(5:Int)) then none else (
 (bif (y_0.2.1.Kind==(6:Int)) then none else (
 (bif (y_0.2.1.Kind==y_0.2.1.Kind) then (
 (bif decide (((List.length (((AV.int .i64 (0:Int)),(AV.agg ((AV.int .i64 have_.Id)::((AV.int .i64 have_.Epoch)::((AV.int .i64 have_.State)::((AV.str have_.From)::((AV.str have_.To)::((AV.sl (List.map Zaf.c have_.Jobs))::((AV.sl (List.map Zac.c have_.Seen))::((AV.int .i64 (1:Int))::[]))))))))))::[]))+1)≤LIM) then (
 (bif (y_0.2.1.Kind==(2:Int)) then none else (
 (bif (y_0.2.1.Kind==(3:Int)) then none else (
 (bif (y_0.2.1.Kind==(4:Int)) then none else (
 (bif (y_0.2.1.Kind==(5:Int)) then none else (
 (bif (y_0.2.1.Kind==(6:Int)) then none else (
 (bif (y_0.2.1.Kind==y_0.2.1.Kind) then (
 (bif (r_.Err==(0:Int)) then (
 some (have_,(1:Int))
 ) else (
 (bif (r_.Err==(3:Int)) then (
 some ((Zaa.mk (0:Int) (0:Int) (0:Int) ([]:List UInt8) ([]:List UInt8) [] []),(@Neg.neg Int Int.instNegInt (1:Int)))
 ) else (
 some (have_,(0:Int))
 ))
 ))
 ) else (
 none
 ))
 ))
 ))
 ))
 ))
 ))
 ) else none)
 ) else (
 none
 ))
 ))
 ))
 ))
 ))
 ) else bif (y_0.2.1.Kind==(2:Int)) then none else (
 (bif (y_0.2.1.Kind==(3:Int)) then none else (
 (bif (y_0.2.1.Kind==(4:Int)) then none else (
 (bif (y_0.2.1.Kind==(5:Int)) then none else (
 (bif (y_0.2.1.Kind==(6:Int)) then none else (
 (bif (y_0.2.1.Kind==y_0.2.1.Kind) then (
 (bif (r_.Err==(0:Int)) then (
 some (have_,(1:Int))
 ) else (
 some (have_,(0:Int))
 ))
 ) else (
 some (have_,(0:Int))
 ))
 ))
 ))
 ))
 ))
 ) else bif y_0.2.1.Kind==(7:Int) then bif (y_0.2.1.Kind==(2:Int)) then none else (
 (bif (y_0.2.1.Kind==(3:Int)) then none else (
 (bif (y_0.2.1.Kind==(4:Int)) then none else (
 (bif (y_0.2.1.Kind==(5:Int)) then none else (
 (bif (y_0.2.1.Kind==(6:Int)) then none else (
 none
 ))
 ))
 ))
 ))
 ) else bif y_0.2.1.Kind==(2:Int) then bif r_.Err==(0:Int) then some (s,(0:Int)) else some (have_,(0:Int)) else bif y_0.2.1.Kind==(3:Int) then bif r_.Err==(0:Int) then some ((Zaa.mk (0:Int) (0:Int) (0:Int) ([]:List UInt8) ([]:List UInt8) [] []),(9:Int)) else some (have_,(0:Int)) else bif y_0.2.1.Kind==(4:Int) then bif r_.Err==(0:Int) then some (have_,(1:Int)) else bif r_.Err==(3:Int) then some (have_,(@Neg.neg Int Int.instNegInt (1:Int))) else bif r_.Err==(1:Int) then some (have_,(@Neg.neg Int Int.instNegInt (1:Int))) else bif r_.Err==(4:Int) then some (have_,(@Neg.neg Int Int.instNegInt (1:Int))) else bif r_.Err==(171:Int) then some (have_,(@Neg.neg Int Int.instNegInt (1:Int))) else some (have_,(0:Int)) else bif y_0.2.1.Kind==(5:Int) then bif r_.Err==(0:Int) then some ((Zaa.mk (0:Int) (0:Int) (0:Int) ([]:List UInt8) ([]:List UInt8) [] []),(2:Int)) else some (have_,(0:Int)) else bif y_0.2.1.Kind==(6:Int) then bif r_.Err==(0:Int) then some (have_,(3:Int)) else bif r_.Err==(171:Int) then some (have_,(3:Int)) else some (have_,(0:Int)) else some (have_,(0:Int)) else none else none else none else none else none
def ZcT (F:Nat) (a:Zag):Option (Int×Int×Int×Int×Int×Int×Int×Int×Int×(List UInt8)×(List Zab)) :=
 (ZaZ F a.Spans).bind fun y_0=>some (a.Groups,a.Last,a.Plan.Kind,a.Plan.Phase,a.Plan.Shard,a.Plan.Other,a.Plan.Group,a.Plan.Past,a.Plan.Epoch,a.Plan.Key,y_0)
def Zdz (F:Nat):Option Bool :=
 (ZeW F (2:Int)).bind fun y_0=>(ZbU F y_0.1 (Zap.mk (1:Int) (0:Int) (1:Int) (0:Int) (2:Int) (0:Int) (0:Int) ([]:List UInt8))).bind fun y_1=>(ZaL F y_1.1 (Zaa.mk (0:Int) (0:Int) (0:Int) ([]:List UInt8) ([]:List UInt8) [] [])).bind fun y_2=>(Zbj F y_1.1 (Zaa.mk (0:Int) (0:Int) (0:Int) ([]:List UInt8) ([]:List UInt8) [] []) (Zam.mk (0:Int) (0:Int) []) (Zaa.mk (1:Int) (1:Int) (2:Int) ([]:List UInt8) ([]:List UInt8) [] [])).bind fun y_3=>(ZaL F y_1.1 y_3.1).bind fun y_4=>(ZaL F y_0.1 (Zaa.mk (0:Int) (0:Int) (0:Int) ([]:List UInt8) ([]:List UInt8) [] [])).bind fun y_5=>bif y_1.2==(0:Int) then bif y_2.2.2 then bif y_2.1==(1:Int) then bif y_2.2.1.Kind==(2:Int) then bif y_3.2==(0:Int) then bif y_4.2.2 then bif y_4.1==(2:Int) then bif y_4.2.1.Kind==(4:Int) then bif y_4.2.1.State.Epoch==(2:Int) then bif y_4.2.1.State.State==(3:Int) then some (!y_5.2.2) else some false else some false else some false else some false else some false else some false else some false else some false else some false else some false
def Zd0 (F:Nat) (s:(List UInt8)):Option Bool :=
 bif s==([]:List UInt8) then some true else (ZdB F s).bind fun y_0=>some y_0
def Zcx (F:Nat) (s:(List UInt8)):Option (List (List UInt8)) :=
 bif decide (s.length≤LIM∧List.length (ZfF ZeU s)≤LIM) then some (ZfF ZeU s) else none
def strings_Split (F:Nat) (s sep:(List UInt8)):Option (List (List UInt8)) :=
 bif decide (s.length≤1048576000∧1≤sep.length) then some (ZgL s sep) else none
def strings_Cut (F:Nat) (s sep:(List UInt8)):Option ((List UInt8)×(List UInt8)×Bool) :=
 bif decide (s.length<4294967281) then some (Lib.cut s sep) else none
def ZeZ (F:Nat) (s cs:(List UInt8)):Option (List UInt8) :=
 bif decide (s.length≤LIM∧cs.length≤LIM∧(cs.all fun b=>decide (b.toNat<128))=true) then some (Lib.trimS s cs) else none
def Ze0 (F:Nat) (s:(List UInt8)):Option Int :=
 match Lib.atoiAll s with | .ok v=>bif decide (s.length≤LIM) then some v else none | _=>none
def Zc3 (F:Nat) (s:(List UInt8)):Option (Int×Bool) :=
 Option.bind (bif decide ((s.length:Int)<(1:Int)) then some true else bif decide ((4:Int)<(s.length:Int)) then some true else (ZeZ F s ([48,49,50,51,52,53,54,55,56,57]:List UInt8)).bind fun y_2=>some (!(y_2==([]:List UInt8)))) fun t18_1=>bif t18_1 then some ((0:Int),false) else (Ze0 F s).bind fun y_3=>some (y_3,true)
def ZeP (F:Nat) (s:(List UInt8)) (f:Zd7):Option (Zb8×Bool) :=
 (strings_Cut F s ([47]:List UInt8)).bind fun y_0=>Option.bind (bif y_0.2.2 then (Zc3 F y_0.2.1).bind fun y_4=>some (y_4.1,y_4.2) else some ((1:Int),true)) fun (step_2,ok_3)=>bif y_0.1==([42]:List UInt8) then some ((Zb8.mk f.least f.most step_2),ok_3) else (strings_Cut F y_0.1 ([45]:List UInt8)).bind fun y_5=>(Zc3 F y_5.1).bind fun y_6=>Option.bind (bif y_5.2.2 then (Zc3 F y_5.2.1).bind fun y_10=>some (y_10.1,y_10.2) else some (y_6.1,true)) fun (to__8,so_9)=>bif ok_3 then bif y_6.2 then bif so_9 then bif y_5.2.2 then some ((Zb8.mk y_6.1 to__8 step_2),true) else some ((Zb8.mk y_6.1 to__8 step_2),(!y_0.2.2)) else some ((Zb8.mk y_6.1 to__8 step_2),false) else some ((Zb8.mk y_6.1 to__8 step_2),false) else some ((Zb8.mk y_6.1 to__8 step_2),false)
def ZdP (F:Nat) (least:Int) (most:Int):Option Int :=
 bif decide ((0:Int)≤(wrap .i64 (most+(1:Int)))) then bif decide ((0:Int)≤least) then some (wrap .u64 ((wrap .u64 ((1:Int) * ((2:Int) ^ (min (Int.toNat (wrap .i64 (most+(1:Int)))) 64)))) - (wrap .u64 ((1:Int) * ((2:Int) ^ (min least.toNat 64)))))) else none else none
def ZbP (F:Nat) (y_42:(Zb8×Bool)) (c_45:Int):Nat→Int→Int→Option (Int)
 | 0,_,_=>none
 | n_47+1,bits_48,k_49=>bif decide (k_49≤c_45) then bif decide ((0:Int)≤k_49) then (ZbP F y_42 c_45 n_47 (@ibits BinOp.or IntKind.u64 bits_48 (wrap .u64 ((1:Int) * ((2:Int) ^ (min k_49.toNat 64))))) (wrap .i64 (k_49+y_42.1.step))) else none else some bits_48
def Zby (F:Nat) (n:Int) (c_0:Int) (c_1:Int) (y_2:(List (List UInt8))):Nat→Int→Int→Int→Option ((((Int×Int)) ⊕ (Int×Int)))
 | 0,_,_,_=>none
 | n_29+1,bits_30,e_31,t20_32=>bif decide (t20_32<(y_2.length:Int)) then Option.bind (
 (bif decide ((0:Int)≤t20_32) then (
 (Option.bind ((y_2)[t20_32.toNat]?) fun y_41=>(
 (Option.bind (ZeP F y_41 (Zd7.mk c_0 c_1)) fun y_42=>(
 (bif (!y_42.2) then (
 some (Sum.inl ((0:Int),(50:Int)))
 ) else (
 (Option.bind (
 (bif (decide (y_42.1.from_<c_0)) then (
 some true
 ) else (
 (bif (decide (c_1<y_42.1.to_)) then (
 some true
 ) else (
 (bif (decide (y_42.1.to_<y_42.1.from_)) then (
 some true
 ) else (
 some (y_42.1.step==(0:Int))
 ))
 ))
 ))
 ) fun t55_43=>(
 (bif t55_43 then (
 some (Sum.inr (bits_30,(51:Int)))
 ) else (
 (Option.bind (
 (bif (y_41==([42]:List UInt8)) then (
 some (n==(4:Int))
 ) else (
 some false
 ))
 ) fun t61_44=>(
 (Option.bind (
 (bif t61_44 then (
 some (6:Int)
 ) else (
 some y_42.1.to_
 ))
 ) fun c_45=>(
 (Option.bind (
 (ZbP F y_42 c_45 F bits_30 y_42.1.from_)
 ) fun bits_46=>(
 some (Sum.inr (bits_46,e_31))
 ))
 ))
 ))
 ))
 ))
 ))
 ))
 ))
 ) else none)
 ) fun o21=>Sum.elim (fun r=>some (Sum.inl r)) (fun (bits_39,e_40)=>(
 (Zby F n c_0 c_1 y_2 n_29 bits_39 e_40 (wrap .i64 (t20_32+(1:Int))))
 )) o21 else some (Sum.inr (bits_30,e_31))
def ZdT (F:Nat) (s:(List UInt8)) (n:Int):Option (Int×Int) :=
 Option.bind (bif decide ((0:Int)≤n) then bif decide (n<(5:Int)) then bif n==(0:Int) then some ((0:Int),(59:Int)) else bif n==(1:Int) then some ((0:Int),(23:Int)) else bif n==(2:Int) then some ((1:Int),(31:Int)) else bif n==(3:Int) then some ((1:Int),(12:Int)) else bif n==(4:Int) then some ((0:Int),(7:Int)) else none else none else none) fun (c_0,c_1)=>(strings_Split F s ([44]:List UInt8)).bind fun y_2=>Option.bind (
 (Zby F n c_0 c_1 y_2 F (0:Int) (0:Int) (0:Int))
 ) fun o11=>Sum.elim (fun r=>some r) (fun (bits_19,e_20)=>(
 (Option.bind (
 (bif (n==(4:Int)) then (
 some ((@Int.fdiv bits_19 ((2:Int) ^ (min (Int.toNat (7:Int)) 64))) != (0:Int))
 ) else (
 some false
 ))
 ) fun t84_50=>(
 (Option.bind (
 (bif t84_50 then (
 (Option.bind (ZdP F (0:Int) (6:Int)) fun y_53=>(
 some (@ibits BinOp.or IntKind.u64 (@ibits BinOp.and IntKind.u64 bits_19 y_53) (1:Int))
 ))
 ) else (
 some bits_19
 ))
 ) fun bits_52=>(
 some (bits_52,e_20)
 ))
 ))
 )) o11
def ZbQ (F:Nat) (y_0:(List (List UInt8))):Nat→Int→Int→Int→Int→Int→Int→Option ((((ZbI×Int×Int)) ⊕ (Int×Int×Int×Int×Int)))
 | 0,_,_,_,_,_,_=>none
 | n_52+1,t23_53,c_54,c_55,c_56,c_57,c_58=>bif decide (t23_53<(y_0.length:Int)) then bif decide ((0:Int)≤t23_53) then y_0[t23_53.toNat]?.bind fun y_66=>(ZdT F y_66 t23_53).bind fun y_67=>bif y_67.2 != (0:Int) then some (Sum.inl ((ZbI.mk (0:Int) (0:Int) (0:Int) (0:Int) (0:Int) false false),t23_53,y_67.2)) else Option.bind (bif decide ((0:Int)≤t23_53) then bif decide (t23_53<(5:Int)) then bif t23_53==(0:Int) then some (y_67.1,c_55,c_56,c_57,c_58) else bif t23_53==(1:Int) then some (c_54,y_67.1,c_56,c_57,c_58) else bif t23_53==(2:Int) then some (c_54,c_55,y_67.1,c_57,c_58) else bif t23_53==(3:Int) then some (c_54,c_55,c_56,y_67.1,c_58) else bif t23_53==(4:Int) then some (c_54,c_55,c_56,c_57,y_67.1) else none else none else none) fun (c_68,c_69,c_70,c_71,c_72)=>(ZbQ F y_0 n_52 (wrap .i64 (t23_53+(1:Int))) c_68 c_69 c_70 c_71 c_72) else none else some (Sum.inr (c_54,c_55,c_56,c_57,c_58))
def ZcS (F:Nat) (text:(List UInt8)):Option (ZbI×Int×Int) :=
 bif decide ((256:Int)<(text.length:Int)) then some ((ZbI.mk (0:Int) (0:Int) (0:Int) (0:Int) (0:Int) false false),(0:Int),(2:Int)) else (Zcx F text).bind fun y_0=>bif (y_0.length:Int) != (5:Int) then some ((ZbI.mk (0:Int) (0:Int) (0:Int) (0:Int) (0:Int) false false),(5:Int),(50:Int)) else Option.bind (
 (ZbQ F y_0 F (0:Int) (0:Int) (0:Int) (0:Int) (0:Int) (0:Int))
 ) fun o4=>Sum.elim (fun r=>some r) (fun (c_33,c_34,c_35,c_36,c_37)=>(
 (Option.bind ((y_0)[(Int.toNat (2:Int))]?) fun y_73=>(
 (Option.bind ((y_0)[(Int.toNat (4:Int))]?) fun y_74=>(
 some ((ZbI.mk c_33 c_34 c_35 c_36 c_37 (y_73==([42]:List UInt8)) (y_74==([42]:List UInt8))),(0:Int),(0:Int))
 ))
 ))
 )) o4
def Zfd (F:Nat) (r_:ZcK):Option Bool :=
 bif decide ((1:Int)≤r_.Month) then bif decide (r_.Month≤(12:Int)) then bif decide ((1:Int)≤r_.Week) then bif decide (r_.Week≤(5:Int)) then bif decide ((0:Int)≤r_.Day) then bif decide (r_.Day≤(6:Int)) then bif decide ((0:Int)≤r_.At) then some (decide (r_.At≤(1439:Int))) else some false else some false else some false else some false else some false else some false else some false
def ZfL (F:Nat) (z:ZbT):Option (Int ⊕ (Int×Zcv)) :=
 Option.bind (bif decide (z.Base<(@Neg.neg Int Int.instNegInt (720:Int))) then some true else bif decide ((840:Int)<z.Base) then some true else bif decide (z.Save<(0:Int)) then some true else some (decide ((120:Int)<z.Save))) fun t23_0=>bif t23_0 then some (Sum.inl (40:Int)) else Option.bind (bif z.Save==(0:Int) then bif !((z.On.Month==(0:Int)) && ((z.On.Week==(0:Int)) && ((z.On.Day==(0:Int)) && ((z.On.At==(0:Int)) && true)))) then some true else bif !((z.Off.Month==(0:Int)) && ((z.Off.Week==(0:Int)) && ((z.Off.Day==(0:Int)) && ((z.Off.At==(0:Int)) && true)))) then some true else bif decide ((0:Int)<z.Save) then (Zfd F z.On).bind fun y_6=>bif !y_6 then some true else (Zfd F z.Off).bind fun y_7=>bif !y_7 then some true else some (z.On.Month==z.Off.Month) else some false else bif decide ((0:Int)<z.Save) then (Zfd F z.On).bind fun y_8=>bif !y_8 then some true else (Zfd F z.Off).bind fun y_9=>bif !y_9 then some true else some (z.On.Month==z.Off.Month) else some false) fun t64_5=>bif t64_5 then some (Sum.inl (40:Int)) else some (Sum.inr ((0:Int),(Zcv.mk z (ZdY.mk ZbO.mk (Zc4.mk Zcc.mk (0:Int)) (ZbW.mk ZbO.mk (Zeg.mk (0:Int) (0:Int)))) [])))
def Zef (F:Nat) (name:(List UInt8)):Option (Int ⊕ (Int×Zcv)) :=
 Option.bind (
 (bif (name==([117,116,99]:List UInt8)) then (
 some (Sum.inr ((0:Int),(0:Int),(0:Int),(0:Int),(0:Int),(0:Int),(0:Int),(0:Int)))
 ) else (
 (bif (name==([105,110,100,105,97]:List UInt8)) then (
 some (Sum.inr ((330:Int),(0:Int),(0:Int),(0:Int),(0:Int),(0:Int),(0:Int),(0:Int)))
 ) else (
 (bif (name==([110,101,112,97,108]:List UInt8)) then (
 some (Sum.inr ((345:Int),(0:Int),(0:Int),(0:Int),(0:Int),(0:Int),(0:Int),(0:Int)))
 ) else (
 (bif (name==([110,101,119,121,111,114,107]:List UInt8)) then (
 some (Sum.inr ((@Neg.neg Int Int.instNegInt (300:Int)),(60:Int),(3:Int),(2:Int),(420:Int),(11:Int),(1:Int),(360:Int)))
 ) else (
 (bif (name==([98,101,114,108,105,110]:List UInt8)) then (
 some (Sum.inr ((60:Int),(60:Int),(3:Int),(5:Int),(60:Int),(10:Int),(5:Int),(60:Int)))
 ) else (
 (bif (name==([115,121,100,110,101,121]:List UInt8)) then (
 some (Sum.inr ((600:Int),(60:Int),(10:Int),(1:Int),(0:Int),(4:Int),(1:Int),(0:Int)))
 ) else (
 (bif (name==([104,111,119,101]:List UInt8)) then (
 some (Sum.inr ((630:Int),(30:Int),(10:Int),(1:Int),(0:Int),(4:Int),(1:Int),(0:Int)))
 ) else (
 some (Sum.inl (Sum.inl (40:Int)))
 ))
 ))
 ))
 ))
 ))
 ))
 ))
 ) fun o0=>Sum.elim (fun r=>some r) (fun (c_0,c_1,c_2,c_3,c_4,c_5,c_6,c_7)=>(
 (Option.bind (ZfL F (ZbT.mk c_0 c_1 (ZcK.mk c_2 c_3 (0:Int) c_4) (ZcK.mk c_5 c_6 (0:Int) c_7))) fun y_8=>(
 (Sum.elim (fun y_8=>(
 some (Sum.inl y_8)
 )) (fun y_8=>(
 some (Sum.inr (y_8.1,(Zcv.mk y_8.2.rules (ZdY.mk ZbO.mk (Zc4.mk Zcc.mk y_8.2.once.done.v) (ZbW.mk ZbO.mk y_8.2.once.m.mu)) y_8.2.turns)))
 )) y_8)
 ))
 )) o0
def Zd9 (F:Nat):Option ZbT :=
 some (ZbT.mk (0:Int) (0:Int) (ZcK.mk (0:Int) (0:Int) (0:Int) (0:Int)) (ZcK.mk (0:Int) (0:Int) (0:Int) (0:Int)))
def Zdr (F:Nat) (b:Zcv):Option ZbT :=
 some b.rules
def ZfY (F:Nat) (expr:(List UInt8)) (name:(List UInt8)):Option (ZbI×ZbT×Int) :=
 (ZcS F expr).bind fun y_0=>bif y_0.2.2 != (0:Int) then some ((ZbI.mk (0:Int) (0:Int) (0:Int) (0:Int) (0:Int) false false),(ZbT.mk (0:Int) (0:Int) (ZcK.mk (0:Int) (0:Int) (0:Int) (0:Int)) (ZcK.mk (0:Int) (0:Int) (0:Int) (0:Int))),y_0.2.2) else (Zef F name).bind fun y_1=>(Sum.elim (fun y_1=>( (Option.bind (Zd9 F) fun y_2=>( some (y_0.1,y_2,y_1) )) )) (fun y_1=>( (Option.bind (Zdr F (Zcv.mk y_1.2.rules (ZdY.mk ZbO.mk (Zc4.mk Zcc.mk y_1.2.once.done.v) (ZbW.mk ZbO.mk y_1.2.once.m.mu)) y_1.2.turns)) fun y_3=>( some (y_0.1,y_3,y_1.1) )) )) y_1)
def ZeL (F:Nat) (t:Int):Option Bool :=
 bif decide ((@Neg.neg Int Int.instNegInt (1:Int))≤t) then some (decide (t≤(226157759:Int))) else some false
def Zek (F:Nat) (c:ZbI):Option Zcu :=
 some (Zcu.mk c.Minute c.Hour c.Day c.Month c.Week)
def ZcC (F:Nat) (field:Int):Option Int :=
 bif field==(4:Int) then (ZdP F (0:Int) (6:Int)).bind fun y_0=>some y_0 else bif decide ((0:Int)≤field) then bif decide (field<(5:Int)) then bif field==(0:Int) then bif decide ((0:Int)≤field) then bif decide (field<(5:Int)) then bif field==(0:Int) then (ZdP F (0:Int) (59:Int)).bind fun y_1=>some y_1 else none else none else none else bif field==(1:Int) then bif decide ((0:Int)≤field) then bif decide (field<(5:Int)) then bif (field==(0:Int)) then none else (
 (bif (field==(1:Int)) then (
 (Option.bind (ZdP F (0:Int) (23:Int)) fun y_2=>(
 some y_2
 ))
 ) else (
 none
 ))
 ) else none else none else bif field==(2:Int) then bif decide ((0:Int)≤field) then bif decide (field<(5:Int)) then bif (field==(0:Int)) then none else (
 (bif (field==(1:Int)) then none else (
 (bif (field==(2:Int)) then (
 (Option.bind (ZdP F (1:Int) (31:Int)) fun y_3=>(
 some y_3
 ))
 ) else (
 none
 ))
 ))
 ) else none else none else bif field==(3:Int) then bif decide ((0:Int)≤field) then bif decide (field<(5:Int)) then bif (field==(0:Int)) then none else (
 (bif (field==(1:Int)) then none else (
 (bif (field==(2:Int)) then none else (
 (bif (field==(3:Int)) then (
 (Option.bind (ZdP F (1:Int) (12:Int)) fun y_4=>(
 some y_4
 ))
 ) else (
 none
 ))
 ))
 ))
 ) else none else none else bif (field==(4:Int)) then none else (
 none
 ) else none else none
def ZcD (F:Nat) (y_0:Zcu):Nat→Int→Option (((Bool) ⊕ Unit))
 | 0,_=>none
 | n_17+1,t7_18=>bif decide (t7_18<(5:Int)) then Option.bind (bif decide ((0:Int)≤t7_18) then bif decide (t7_18<(5:Int)) then bif t7_18==(0:Int) then some y_0.e0 else bif t7_18==(1:Int) then some y_0.e1 else bif t7_18==(2:Int) then some y_0.e2 else bif t7_18==(3:Int) then some y_0.e3 else bif t7_18==(4:Int) then some y_0.e4 else none else none else none) fun b_22=>Option.bind (bif b_22==(0:Int) then some true else (ZcC F t7_18).bind fun y_25=>some ((@ibits BinOp.andNot IntKind.u64 b_22 y_25) != (0:Int))) fun t19_24=>bif t19_24 then some (Sum.inl false) else (ZcD F y_0 n_17 (wrap .i64 (t7_18+(1:Int)))) else some (Sum.inr ())
def Zfn (F:Nat) (c:ZbI):Option Bool :=
 (Zek F c).bind fun y_0=>Option.bind (
 (ZcD F y_0 F (0:Int))
 ) fun o6=>Sum.elim (fun r=>some r) (fun _=>(
 (bif (!c.AnyDay) then (
 (bif (!c.AnyWeek) then (
 some true
 ) else (
 (Option.bind (ZcC F (4:Int)) fun y_26=>(
 some (c.Week==y_26)
 ))
 ))
 ) else (
 (Option.bind (ZcC F (2:Int)) fun y_27=>(
 (bif (c.Day==y_27) then (
 (bif (!c.AnyWeek) then (
 some true
 ) else (
 (Option.bind (ZcC F (4:Int)) fun y_28=>(
 some (c.Week==y_28)
 ))
 ))
 ) else (
 some false
 ))
 ))
 ))
 )) o6
def Zbp (F:Nat) (n:Int):Option Int :=
 bif decide (0≤n∧n<18446744073709551616) then some ((Lib.ctz 64 n.toNat:Nat):Int) else none
def strconv_Itoa (F:Nat) (i:Int):Option (List UInt8) :=
 bif decide (-9223372036854775808≤i∧i≤9223372036854775807) then some (Lib.itoa i) else none
def strings_Join (F:Nat) (xs:List (List UInt8)) (sep:(List UInt8)):Option (List UInt8) :=
 bif decide (List.length (Lib.join xs sep)≤140737488355328) then some (Lib.join xs sep) else none
def ZdS (F:Nat):Nat→Int→(List (List UInt8))→Option ((List (List UInt8)))
 | 0,_,_=>none
 | n_19+1,b_20,l_21=>bif b_20 != (0:Int) then (Zbp F b_20).bind fun y_22=>bif decide ((0:Int)≤y_22) then (Zbp F (@ibits BinOp.xor IntKind.u64 (if ((@IntKind.signed IntKind.u64)=true) then (@Neg.neg Int Int.instNegInt (1:Int)) else (@IntKind.max IntKind.u64)) (@Int.fdiv b_20 ((2:Int) ^ (min y_22.toNat 64))))).bind fun y_23=>(strconv_Itoa F y_22).bind fun y_24=>Option.bind (bif decide ((1:Int)<y_23) then (strconv_Itoa F (wrap .i64 ((wrap .i64 (y_22+y_23)) - (1:Int)))).bind fun y_27=>bif decide (((List.length ([45]:List UInt8))+(y_27.length))≤9223372036854775807) then bif decide (((y_24.length)+(List.length (([45]:List UInt8)++y_27)))≤9223372036854775807) then some (y_24++(([45]:List UInt8)++y_27)) else none else none else some y_24) fun s_26=>bif decide (((l_21.length)+1)≤LIM) then (ZdP F y_22 (wrap .i64 ((wrap .i64 (y_22+y_23)) - (1:Int)))).bind fun y_28=>(ZdS F n_19 (@ibits BinOp.andNot IntKind.u64 b_20 y_28) (l_21++(s_26::[]))) else none else none else some l_21
def ZeO (F:Nat) (b:Int):Option (List UInt8) :=
 ((ZdS F F b [])).bind fun l_12=>(strings_Join F l_12 ([44]:List UInt8)).bind fun y_29=>some y_29
def ZbX (F:Nat) (c:ZbI) (y_1:Zcu):Nat→Int→(List (List UInt8))→Option ((List (List UInt8)))
 | 0,_,_=>none
 | n_16+1,t13_17,l_18=>bif decide (t13_17<(5:Int)) then Option.bind (Option.bind (bif decide ((0:Int)≤t13_17) then bif decide (t13_17<(5:Int)) then bif t13_17==(0:Int) then some y_1.e0 else bif t13_17==(1:Int) then some y_1.e1 else bif t13_17==(2:Int) then some y_1.e2 else bif t13_17==(3:Int) then some y_1.e3 else bif t13_17==(4:Int) then some y_1.e4 else none else none else none) fun b_24=>(ZcC F t13_17).bind fun y_25=>Option.bind (bif t13_17==(2:Int) then some c.AnyDay else bif t13_17==(4:Int) then some c.AnyWeek else some (b_24==y_25)) fun star_26=>bif star_26 then bif decide (((l_18.length)+1)≤LIM) then some (l_18++(([42]:List UInt8)::[])) else none else (ZeO F b_24).bind fun y_27=>bif decide (((l_18.length)+1)≤LIM) then some (l_18++(y_27::[])) else none) fun l_23=>(ZbX F c y_1 n_16 (wrap .i64 (t13_17+(1:Int))) l_23) else some l_18
def ZdU (F:Nat) (c:ZbI):Option ((List UInt8)×Int) :=
 (Zfn F c).bind fun y_0=>bif !y_0 then some (([]:List UInt8),(1:Int)) else (Zek F c).bind fun y_1=>((ZbX F c y_1 F (0:Int) [])).bind fun l_10=>(strings_Join F l_10 ([32]:List UInt8)).bind fun y_28=>some (y_28,(0:Int))
def ZdA (F:Nat) (j:Zaf):Option Bool :=
 (ZfY F j.Expr j.Zone).bind fun y_0=>Option.bind (bif y_0.2.2 != (0:Int) then some true else (ZdB F j.Name).bind fun y_4=>bif !y_4 then some true else bif decide ((32:Int)<(j.Token.length:Int)) then some true else bif decide (j.Client<(1:Int)) then some true else bif decide ((64:Int)<j.Client) then some true else bif decide (j.Seq<(1:Int)) then some true else (ZeL F j.Mark).bind fun y_5=>some (!y_5)) fun t51_3=>bif t51_3 then some false else (ZdU F y_0.1).bind fun y_6=>some (y_6.1==j.Expr)
def Zcb (F:Nat) (list:(List Zaf)):Nat→Int→Option (((Bool) ⊕ Unit))
 | 0,_=>none
 | n_22+1,t7_23=>bif decide (t7_23<(list.length:Int)) then bif decide ((0:Int)≤t7_23) then list[t7_23.toNat]?.bind fun y_28=>Option.bind ((ZdA F y_28).bind fun y_32=>bif !y_32 then some true else bif decide ((0:Int)<t7_23) then bif decide ((0:Int)≤(wrap .i64 (t7_23 - (1:Int)))) then list[(Int.toNat (wrap .i64 (t7_23 - (1:Int))))]?.bind fun y_33=>some (!(@Op.bytesLess y_33.Name y_28.Name)) else none else some false) fun t29_31=>bif t29_31 then some (Sum.inl false) else (Zcb F list n_22 (wrap .i64 (t7_23+(1:Int)))) else none else some (Sum.inr ())
def ZdC (F:Nat) (list:(List Zaf)):Option Bool :=
 Option.bind (
 (Zcb F list F (0:Int))
 ) fun o4=>Sum.elim (fun r=>some r) (fun _=>(
 some (decide ((List.length (List.map Zaf.c list):Int)≤(256:Int)))
 )) o4
def Zdv (F:Nat) (client:Int) (seq:Int):Option Bool :=
 bif decide ((1:Int)≤client) then bif decide (client≤(64:Int)) then some (decide ((1:Int)≤seq)) else some false else some false
def ZbG (F:Nat) (book:(List Zac)):Nat→Int→Option (((Bool) ⊕ Unit))
 | 0,_=>none
 | n_22+1,t7_23=>bif decide (t7_23<(book.length:Int)) then bif decide ((0:Int)≤t7_23) then book[t7_23.toNat]?.bind fun y_28=>Option.bind ((Zdv F y_28.Client y_28.Seq).bind fun y_32=>bif !y_32 then some true else bif decide ((0:Int)<t7_23) then bif decide ((0:Int)≤(wrap .i64 (t7_23 - (1:Int)))) then book[(Int.toNat (wrap .i64 (t7_23 - (1:Int))))]?.bind fun y_33=>some (decide (y_28.Client≤y_33.Client)) else none else some false) fun t32_31=>bif t32_31 then some (Sum.inl false) else (ZbG F book n_22 (wrap .i64 (t7_23+(1:Int)))) else none else some (Sum.inr ())
def Zbl (F:Nat) (book:(List Zac)):Option Bool :=
 Option.bind (
 (ZbG F book F (0:Int))
 ) fun o4=>Sum.elim (fun r=>some r) (fun _=>(
 some true
 )) o4
def Zdu (F:Nat) (s:Zaa) (name:(List UInt8)):Option Bool :=
 Option.bind ((Zd0 F s.From).bind fun y_3=>bif !y_3 then some true else (Zd0 F s.To).bind fun y_4=>bif !y_4 then some true else bif !(s.To==([]:List UInt8)) then some ((@Op.bytesLess s.To s.From) || (s.To==s.From)) else some false) fun t26_2=>bif t26_2 then some false else (ZdB F name).bind fun y_5=>bif y_5 then bif !(@Op.bytesLess name s.From) then bif s.To==([]:List UInt8) then some true else some (@Op.bytesLess name s.To) else some false else some false
def Zez (F:Nat) (j:Zaf) (a1:Zaa):Option Bool :=
 (Zdu F a1 j.Name).bind fun y_0=>some (!y_0)
def ZaC (F:Nat) (s:(List Zaf)) (f0:Zaa):Nat→Int→Option (((Int) ⊕ Unit))
 | 0,_=>none
 | n_12+1,t8_13=>bif decide (t8_13<(s.length:Int)) then bif decide ((0:Int)≤t8_13) then s[t8_13.toNat]?.bind fun y_16=>(Zez F y_16 f0).bind fun y_17=>bif y_17 then some (Sum.inl t8_13) else (ZaC F s f0 n_12 (wrap .i64 (t8_13+(1:Int)))) else none else some (Sum.inr ())
def Zbm (F:Nat) (s:(List Zaf)) (f0:Zaa):Option Int :=
 Option.bind (
 (ZaC F s f0 F (0:Int))
 ) fun o0=>Sum.elim (fun r=>some r) (fun _=>(
 some (@Neg.neg Int Int.instNegInt (1:Int))
 )) o0
def Zat (F:Nat) (s:(List Zaf)) (b:Zaa):Option Bool :=
 (Zbm F s b).bind fun y_0=>some (decide ((0:Int)≤y_0))
def Zb2 (F:Nat) (s:Zaa):Option Bool :=
 Option.bind (bif decide (s.Id<(1:Int)) then some true else bif decide (s.Epoch<(1:Int)) then some true else bif decide ((1099511627776:Int)<s.Epoch) then some true else bif decide (s.State<(1:Int)) then some true else bif decide ((4:Int)<s.State) then some true else (Zd0 F s.From).bind fun y_3=>bif !y_3 then some true else (Zd0 F s.To).bind fun y_4=>bif !y_4 then some true else bif !(s.To==([]:List UInt8)) then some ((@Op.bytesLess s.To s.From) || (s.To==s.From)) else some false) fun t49_2=>bif t49_2 then some false else Option.bind ((ZdC F s.Jobs).bind fun y_8=>bif !y_8 then some true else (Zbl F s.Seen).bind fun y_9=>bif !y_9 then some true else bif s.State==(4:Int) then some (decide ((0:Int)<(wrap .i64 ((List.length (List.map Zaf.c s.Jobs):Int)+(List.length (List.map Zac.c s.Seen):Int))))) else some false) fun t74_7=>bif t74_7 then some false else (Zat F s.Jobs s).bind fun y_10=>some (!y_10)
def Zcz (F:Nat) (list:(List Zaa)):Nat→Int→Int→Option (Int)
 | 0,_,_=>none
 | n_7+1,n_8,t8_9=>bif decide (t8_9<(list.length:Int)) then Option.bind (bif decide ((0:Int)≤t8_9) then list[t8_9.toNat]?.bind fun y_12=>bif y_12.State != (4:Int) then some (wrap .i64 (n_8+(1:Int))) else some n_8 else none) fun n_11=>(Zcz F list n_7 n_11 (wrap .i64 (t8_9+(1:Int)))) else some n_8
def Zcr (F:Nat) (list:(List Zaa)):Option Int :=
 ((Zcz F list F (0:Int) (0:Int))).bind fun n_4=>some n_4
def Zce (F:Nat) (list:(List Zaa)):Nat→Int→Option (((Bool) ⊕ Unit))
 | 0,_=>none
 | n_22+1,t7_23=>bif decide (t7_23<(list.length:Int)) then bif decide ((0:Int)≤t7_23) then list[t7_23.toNat]?.bind fun y_28=>Option.bind ((Zb2 F y_28).bind fun y_32=>bif !y_32 then some true else bif decide ((0:Int)<t7_23) then bif decide ((0:Int)≤(wrap .i64 (t7_23 - (1:Int)))) then list[(Int.toNat (wrap .i64 (t7_23 - (1:Int))))]?.bind fun y_33=>some (decide (y_28.Id≤y_33.Id)) else none else some false) fun t29_31=>bif t29_31 then some (Sum.inl false) else (Zce F list n_22 (wrap .i64 (t7_23+(1:Int)))) else none else some (Sum.inr ())
def Zc0 (F:Nat) (list:(List Zaa)):Option Bool :=
 Option.bind (
 (Zce F list F (0:Int))
 ) fun o4=>Sum.elim (fun r=>some r) (fun _=>(
 (bif (decide ((list.length:Int)≤(64:Int))) then (
 (Option.bind (Zcr F list) fun y_34=>(
 some (decide (y_34≤(16:Int)))
 ))
 ) else (
 some false
 ))
 )) o4
def ZbC (F:Nat) (groups:Int):Nat→Int→(List (List Zaa))→Option ((List (List Zaa)))
 | 0,_,_=>none
 | n_2+1,i_3,l_4=>bif decide (i_3<groups) then bif decide (((l_4.length)+1)≤LIM) then (ZbC F groups n_2 (wrap .i64 (i_3+(1:Int))) (l_4++([]::[]))) else none else some l_4
def Zci (F:Nat) (groups:Int) (jobs:(List Zaf)) (seen:(List Zac)):Option (Int×Int×(List Zab)×Int×Int×Int×Int×Int×Int×Int×(List UInt8)×Bool×(List (List Zaa))) :=
 (ZeW F groups).bind fun y_0=>bif y_0.2 != (0:Int) then some (y_0.1.Groups,y_0.1.Last,y_0.1.Spans,y_0.1.Plan.Kind,y_0.1.Plan.Phase,y_0.1.Plan.Shard,y_0.1.Plan.Other,y_0.1.Plan.Group,y_0.1.Plan.Past,y_0.1.Plan.Epoch,y_0.1.Plan.Key,false,[]) else ((ZbC F groups F (0:Int) [])).bind fun l_1=>l_1[(Int.toNat (0:Int))]?.bind fun y_5=>l_1[(Int.toNat (0:Int))]?.bind fun y_6=>(((List.set l_1 (Int.toNat (0:Int)) ((Zaa.mk (1:Int) (1:Int) (1:Int) ([]:List UInt8) ([]:List UInt8) jobs seen)::[])))[(Int.toNat (0:Int))]?).bind fun y_7=>(((List.set l_1 (Int.toNat (0:Int)) ((Zaa.mk (1:Int) (1:Int) (1:Int) ([]:List UInt8) ([]:List UInt8) jobs seen)::[])))[(Int.toNat (0:Int))]?).bind fun y_8=>(Zc0 F y_8).bind fun y_9=>some (y_0.1.Groups,y_0.1.Last,y_0.1.Spans,y_0.1.Plan.Kind,y_0.1.Plan.Phase,y_0.1.Plan.Shard,y_0.1.Plan.Other,y_0.1.Plan.Group,y_0.1.Plan.Past,y_0.1.Plan.Epoch,y_0.1.Plan.Key,y_9,(List.set l_1 (Int.toNat (0:Int)) ((Zaa.mk (1:Int) (1:Int) (1:Int) ([]:List UInt8) ([]:List UInt8) jobs seen)::[])))
def Zb5 (F:Nat) (a:Zag):Option (Zag×Int) :=
 (Zbb F a).bind fun y_0=>bif !y_0 then some ((Zag.mk (0:Int) (0:Int) [] (Zap.mk (0:Int) (0:Int) (0:Int) (0:Int) (0:Int) (0:Int) (0:Int) ([]:List UInt8))),(4:Int)) else (ZcT F a).bind fun y_1=>Option.bind (bif y_1.2.2.1==(0:Int) then some true else some (y_1.2.2.2.1 != (1:Int))) fun t19_2=>bif t19_2 then some ((Zag.mk y_1.1 y_1.2.1 y_1.2.2.2.2.2.2.2.2.2.2 (Zap.mk y_1.2.2.1 y_1.2.2.2.1 y_1.2.2.2.2.1 y_1.2.2.2.2.2.1 y_1.2.2.2.2.2.2.1 y_1.2.2.2.2.2.2.2.1 y_1.2.2.2.2.2.2.2.2.1 y_1.2.2.2.2.2.2.2.2.2.1)),(4:Int)) else (Zco F (Zag.mk y_1.1 y_1.2.1 y_1.2.2.2.2.2.2.2.2.2.2 (Zap.mk y_1.2.2.1 y_1.2.2.2.1 y_1.2.2.2.2.1 y_1.2.2.2.2.2.1 y_1.2.2.2.2.2.2.1 y_1.2.2.2.2.2.2.2.1 y_1.2.2.2.2.2.2.2.2.1 y_1.2.2.2.2.2.2.2.2.2.1)) y_1.2.2.2.2.1).bind fun y_3=>bif decide ((0:Int)≤y_3) then ((y_1.2.2.2.2.2.2.2.2.2.2)[y_3.toNat]?).bind fun y_4=>((y_1.2.2.2.2.2.2.2.2.2.2)[y_3.toNat]?).bind fun y_5=>bif decide ((0:Int)≤y_3) then ((y_1.2.2.2.2.2.2.2.2.2.2)[y_3.toNat]?).bind fun y_6=>((y_1.2.2.2.2.2.2.2.2.2.2)[y_3.toNat]?).bind fun y_7=>some ((Zag.mk y_1.1 y_1.2.1 (List.set y_1.2.2.2.2.2.2.2.2.2.2 y_3.toNat (Zab.mk y_7.From y_7.To y_7.Shard (wrap .i64 (y_5.Epoch+(2:Int))) y_7.Group)) (Zap.mk y_1.2.2.1 (9:Int) y_1.2.2.2.2.1 y_1.2.2.2.2.2.1 y_1.2.2.2.2.2.2.1 y_1.2.2.2.2.2.2.2.1 y_1.2.2.2.2.2.2.2.2.1 y_1.2.2.2.2.2.2.2.2.2.1)),(0:Int)) else none else none
def ZbY (F:Nat) (y_1:(List Zac)):Nat→Int→(List Zac)→Option ((List Zac))
 | 0,_,_=>none
 | n_33+1,t15_34,l_35=>bif decide (t15_34<(y_1.length:Int)) then bif decide ((0:Int)≤t15_34) then l_35[t15_34.toNat]?.bind fun y_41=>l_35[t15_34.toNat]?.bind fun y_42=>(Zai F y_42.Result.Jobs).bind fun y_43=>bif decide ((0:Int)≤t15_34) then l_35[t15_34.toNat]?.bind fun y_44=>l_35[t15_34.toNat]?.bind fun y_45=>(ZbY F y_1 n_33 (wrap .i64 (t15_34+(1:Int))) (List.set l_35 t15_34.toNat (Zac.mk y_45.Client y_45.Seq (Zam.mk y_45.Result.Err y_45.Result.Time y_43)))) else none else none else some l_35
def ZbS (F:Nat) (s:Zaa):Option (Int×Int×Int×(List UInt8)×(List UInt8)×(List Zaf)×(List Zac)) :=
 (Zai F s.Jobs).bind fun y_0=>(ZaG F s.Seen).bind fun y_1=>((ZbY F y_1 F (0:Int) y_1)).bind fun l_22=>some (s.Id,s.Epoch,s.State,s.From,s.To,y_0,l_22)
def Ze1 (F:Nat):Option (Int×Int×Int×Int×Int×Int×Int×Int) :=
 some ((1:Int),(2:Int),(3:Int),(4:Int),(5:Int),(6:Int),(7:Int),(8:Int))
def ZdL (F:Nat) (x:Int):Option Bool :=
 some (x != x)
def Zct (F:Nat) (x:Int) (y:Int):Option Int :=
 (ZdL F x).bind fun y_0=>(ZdL F y).bind fun y_1=>bif y_0 then bif y_1 then some (0:Int) else some (@Neg.neg Int Int.instNegInt (1:Int)) else bif y_1 then some (1:Int) else bif decide (x<y) then some (@Neg.neg Int Int.instNegInt (1:Int)) else bif decide (y<x) then some (1:Int) else some (0:Int)
def ZbN (F:Nat) (s:Zaa) (id:Int):Option Int :=
 (Zct F s.Id id).bind fun y_0=>some y_0
def Zaj (F:Nat) (x:(List Zaa)) (target:Int):Nat→Int→Int→Option (Int)
 | 0,_,_=>none
 | n_7+1,i_8,j_9=>bif decide (i_8<j_9) then bif decide ((0:Int)≤(wrap .i64 (@Int.fdiv (wrap .u64 (wrap .i64 (i_8+j_9))) ((2:Int) ^ (min (Int.toNat (1:Int)) 64))))) then x[(Int.toNat (wrap .i64 (@Int.fdiv (wrap .u64 (wrap .i64 (i_8+j_9))) ((2:Int) ^ (min (Int.toNat (1:Int)) 64)))))]?.bind fun y_10=>(ZbN F y_10 target).bind fun y_11=>bif decide (y_11<(0:Int)) then (Zaj F x target n_7 (wrap .i64 ((wrap .i64 (@Int.fdiv (wrap .u64 (wrap .i64 (i_8+j_9))) ((2:Int) ^ (min (Int.toNat (1:Int)) 64))))+(1:Int))) j_9) else (Zaj F x target n_7 i_8 (wrap .i64 (@Int.fdiv (wrap .u64 (wrap .i64 (i_8+j_9))) ((2:Int) ^ (min (Int.toNat (1:Int)) 64))))) else none else some i_8
def ZaS (F:Nat) (x:(List Zaa)) (target:Int):Option (Int×Bool) :=
 ((Zaj F x target F (0:Int) (List.length (List.map Zaa.c x):Int))).bind fun i_4=>bif decide (i_4<(x.length:Int)) then bif decide ((0:Int)≤i_4) then x[i_4.toNat]?.bind fun y_12=>(ZbN F y_12 target).bind fun y_13=>some (i_4,(y_13==(0:Int))) else none else some (i_4,false)
def ZaR (F:Nat) (id:Int) (l:(List Zaa)):Option (Int×Bool) :=
 (ZaS F l id).bind fun y_0=>some (y_0.1,y_0.2)
def Zao (F:Nat) (id:Int) (l:(List Zaa)):Option (Unit ⊕ Nat) :=
 (ZaR F id l).bind fun y_0=>Option.bind (bif !y_0.2 then some true else bif decide ((0:Int)≤y_0.1) then l[(Int.toNat y_0.1)]?.bind fun y_4=>l[(Int.toNat y_0.1)]?.bind fun y_5=>some (y_5.State==(4:Int)) else none) fun t25_3=>bif t25_3 then some (Sum.inl ()) else bif decide ((0:Int)≤y_0.1) then l[(Int.toNat y_0.1)]?.bind fun y_6=>some (Sum.inr (Int.toNat y_0.1)) else none
def Zan (F:Nat) (id:Int) (epoch:Int) (l:(List Zaa)):Option (Int ⊕ (Nat×Int)) :=
 (Zao F id l).bind fun y_0=>(Sum.elim (fun y_0=>( some (Sum.inl (172:Int)) )) (fun y_0=>( (Option.bind ((l)[y_0]?) fun y_2=>( (bif (y_2.Epoch != epoch) then ( some (Sum.inl (171:Int)) ) else ( some (Sum.inr (y_0,(0:Int))) )) )) )) y_0)
def Zah (F:Nat) (e:Int):Option (Zam×Zaa) :=
 some ((Zam.mk e (0:Int) []),(Zaa.mk (0:Int) (0:Int) (0:Int) ([]:List UInt8) ([]:List UInt8) [] []))
def ZaY (F:Nat) (o_:Zae) (l:(List Zaa)):Option (Zam×Zaa×(List Zaa)) :=
 (Zan F o_.Shard o_.Epoch l).bind fun y_0=>(Sum.elim (fun y_0=>( (bif (y_0 != (0:Int)) then ( (Option.bind (Zah F y_0) fun y_1=>( some (y_1.1,y_1.2,l) )) ) else ( none )) )) (fun y_0=>( (bif (y_0.2 != (0:Int)) then ( (Option.bind (Zah F y_0.2) fun y_2=>( some (y_2.1,y_2.2,l) )) ) else ( (Option.bind ((l)[y_0.1]?) fun y_3=>( (bif (y_3.State==(3:Int)) then ( (Option.bind (Zah F (4:Int)) fun y_4=>( some (y_4.1,y_4.2,l) )) ) else ( (Option.bind ((l)[y_0.1]?) fun y_5=>( (Option.bind (((List.set l y_0.1 (Zaa.mk y_5.Id y_5.Epoch (2:Int) y_5.From y_5.To y_5.Jobs y_5.Seen)))[y_0.1]?) fun y_6=>( (Option.bind (ZbS F y_6) fun y_7=>( some ((Zam.mk (0:Int) (0:Int) []),(Zaa.mk y_7.1 y_7.2.1 y_7.2.2.1 y_7.2.2.2.1 y_7.2.2.2.2.1 y_7.2.2.2.2.2.1 y_7.2.2.2.2.2.2),(List.set l y_0.1 (Zaa.mk y_5.Id y_5.Epoch (2:Int) y_5.From y_5.To y_5.Jobs y_5.Seen))) )) )) )) )) )) )) )) y_0)
def Zcg (F:Nat) (now:Int) (next:Int):Option Bool :=
 bif decide (now<next) then some (decide (next≤(1099511627776:Int))) else some false
def Zbn (F:Nat) (o_:Zae) (l:(List Zaa)):Option (Zam×Zaa×(List Zaa)) :=
 (Zao F o_.Shard l).bind fun y_0=>(Sum.elim (fun y_0=>( (Option.bind (Zan F o_.Shard o_.Epoch l) fun y_1=>( (Sum.elim (fun y_1=>( (bif (y_1 != (0:Int)) then ( (Option.bind (Zah F y_1) fun y_3=>( some (y_3.1,y_3.2,l) )) ) else ( none )) )) (fun y_1=>( (bif (y_1.2 != (0:Int)) then ( (Option.bind (Zah F y_1.2) fun y_10=>( some (y_10.1,y_10.2,l) )) ) else ( (Option.bind ((l)[y_1.1]?) fun y_11=>( (bif (y_11.State != (2:Int)) then ( (Option.bind (Zah F (4:Int)) fun y_12=>( some (y_12.1,y_12.2,l) )) ) else ( (Option.bind ((l)[y_1.1]?) fun y_13=>( (Option.bind (Zcg F y_13.Epoch o_.Past) fun y_14=>( (bif (!y_14) then ( (Option.bind (Zah F (1:Int)) fun y_15=>( some (y_15.1,y_15.2,l) )) ) else ( (Option.bind ((l)[y_1.1]?) fun y_16=>( (Option.bind (((List.set l y_1.1 (Zaa.mk y_16.Id y_16.Epoch (1:Int) y_16.From y_16.To y_16.Jobs y_16.Seen)))[y_1.1]?) fun y_17=>( (Option.bind (Zah F (0:Int)) fun y_18=>( some (y_18.1,y_18.2,(List.set (List.set l y_1.1 (Zaa.mk y_16.Id y_16.Epoch (1:Int) y_16.From y_16.To y_16.Jobs y_16.Seen)) y_1.1 (Zaa.mk y_17.Id o_.Past y_17.State y_17.From y_17.To y_17.Jobs y_17.Seen))) )) )) )) )) )) )) )) )) )) )) y_1) )) )) (fun y_0=>( (Option.bind ( (Option.bind ((l)[y_0]?) fun y_22=>( (bif (y_22.State==(1:Int)) then ( (Option.bind ((l)[y_0]?) fun y_23=>( some (y_23.Epoch==o_.Past) )) ) else ( some false )) )) ) fun t30_21=>( (bif t30_21 then ( (Option.bind (Zah F (0:Int)) fun y_24=>( some (y_24.1,y_24.2,l) )) ) else ( (Option.bind (Zan F o_.Shard o_.Epoch l) fun y_25=>( (Sum.elim (fun y_25=>( (bif (y_25 != (0:Int)) then ( (Option.bind (Zah F y_25) fun y_27=>( some (y_27.1,y_27.2,l) )) ) else ( none )) )) (fun y_25=>( (bif (y_25.2 != (0:Int)) then ( (Option.bind (Zah F y_25.2) fun y_34=>( some (y_34.1,y_34.2,l) )) ) else ( (Option.bind ((l)[y_25.1]?) fun y_35=>( (bif (y_35.State != (2:Int)) then ( (Option.bind (Zah F (4:Int)) fun y_36=>( some (y_36.1,y_36.2,l) )) ) else ( (Option.bind ((l)[y_25.1]?) fun y_37=>( (Option.bind (Zcg F y_37.Epoch o_.Past) fun y_38=>( (bif (!y_38) then ( (Option.bind (Zah F (1:Int)) fun y_39=>( some (y_39.1,y_39.2,l) )) ) else ( (Option.bind ((l)[y_25.1]?) fun y_40=>( (Option.bind (((List.set l y_25.1 (Zaa.mk y_40.Id y_40.Epoch (1:Int) y_40.From y_40.To y_40.Jobs y_40.Seen)))[y_25.1]?) fun y_41=>( (Option.bind (Zah F (0:Int)) fun y_42=>( some (y_42.1,y_42.2,(List.set (List.set l y_25.1 (Zaa.mk y_40.Id y_40.Epoch (1:Int) y_40.From y_40.To y_40.Jobs y_40.Seen)) y_25.1 (Zaa.mk y_41.Id o_.Past y_41.State y_41.From y_41.To y_41.Jobs y_41.Seen))) )) )) )) )) )) )) )) )) )) )) y_25) )) )) )) )) y_0)
def Zaq (F:Nat) (i:Int) (l:(List Zaa)) (l_2:(List Zaa)):Option (List Zaa) :=
 match l_2 with
 | [x]=>bif decide (0≤i∧Int.toNat i≤l.length∧l.length<LIM) then some (List.take i.toNat l++x::List.drop i.toNat l) else none
 | _=>none
def Za0 (F:Nat) (o_:Zae) (l:(List Zaa)):Option (Zam×Zaa×(List Zaa)) :=
 Option.bind ((Zb2 F o_.State).bind fun y_2=>bif !y_2 then some true else some (o_.State.State==(4:Int))) fun t19_1=>bif t19_1 then (Zah F (1:Int)).bind fun y_3=>some (y_3.1,y_3.2,l) else (ZbS F o_.State).bind fun y_4=>(ZaR F y_4.1 l).bind fun y_5=>Option.bind (bif y_5.2 then bif decide ((0:Int)≤y_5.1) then l[(Int.toNat y_5.1)]?.bind fun y_9=>l[(Int.toNat y_5.1)]?.bind fun y_10=>some (y_10.State==(4:Int)) else none else some false) fun gone_8=>Option.bind (
 (Option.bind (
 (bif gone_8 then (
 (bif decide ((0:Int)≤y_5.1) then (
 (Option.bind ((l)[(Int.toNat y_5.1)]?) fun y_90=>(
 (Option.bind ((l)[(Int.toNat y_5.1)]?) fun y_91=>(
 some (decide (y_4.2.1≤y_91.Epoch))
 ))
 ))
 ) else none)
 ) else (
 some false
 ))
 ) fun t57_89=>(
 (bif t57_89 then (
 (Option.bind (Zah F (171:Int)) fun y_92=>(
 some (Sum.inl (y_92.1,y_92.2,l))
 ))
 ) else (
 (Option.bind (
 (bif gone_8 then (
 (Option.bind (Zcr F l) fun y_95=>(
 some (decide ((16:Int)≤y_95))
 ))
 ) else (
 some false
 ))
 ) fun t75_94=>(
 (bif t75_94 then (
 (Option.bind (Zah F (3:Int)) fun y_96=>(
 some (Sum.inl (y_96.1,y_96.2,l))
 ))
 ) else (
 (Option.bind (
 (bif y_5.2 then (
 (bif decide ((0:Int)≤y_5.1) then (
 (Option.bind ((l)[(Int.toNat y_5.1)]?) fun y_100=>(
 (Option.bind ((l)[(Int.toNat y_5.1)]?) fun y_101=>(
 some (y_101.Epoch==y_4.2.1)
 ))
 ))
 ) else none)
 ) else (
 some false
 ))
 ) fun t88_99=>(
 (bif t88_99 then (
 (Option.bind (Zah F (0:Int)) fun y_102=>(
 some (Sum.inl (y_102.1,y_102.2,l))
 ))
 ) else (
 (Option.bind (
 (bif y_5.2 then (
 (bif decide ((0:Int)≤y_5.1) then (
 (Option.bind ((l)[(Int.toNat y_5.1)]?) fun y_106=>(
 (Option.bind ((l)[(Int.toNat y_5.1)]?) fun y_107=>(
 some (decide (y_4.2.1<y_107.Epoch))
 ))
 ))
 ) else none)
 ) else (
 some false
 ))
 ) fun t106_105=>(
 (bif t106_105 then (
 (Option.bind (Zah F (171:Int)) fun y_108=>(
 some (Sum.inl (y_108.1,y_108.2,l))
 ))
 ) else (
 (Option.bind (
 (bif y_5.2 then (
 (bif decide ((0:Int)≤y_5.1) then (
 (Option.bind ((l)[(Int.toNat y_5.1)]?) fun y_112=>(
 (Option.bind ((l)[(Int.toNat y_5.1)]?) fun y_113=>(
 some (y_113.State==(1:Int))
 ))
 ))
 ) else none)
 ) else (
 some false
 ))
 ) fun t124_111=>(
 (bif t124_111 then (
 (Option.bind (Zah F (4:Int)) fun y_114=>(
 some (Sum.inl (y_114.1,y_114.2,l))
 ))
 ) else (
 (bif y_5.2 then (
 (bif decide ((0:Int)≤y_5.1) then (
 (Option.bind ((l)[(Int.toNat y_5.1)]?) fun y_115=>(
 (Option.bind ((l)[(Int.toNat y_5.1)]?) fun y_116=>(
 some (Sum.inr (List.set l (Int.toNat y_5.1) (Zaa.mk y_4.1 y_4.2.1 (3:Int) y_4.2.2.2.1 y_4.2.2.2.2.1 y_4.2.2.2.2.2.1 y_4.2.2.2.2.2.2)))
 ))
 ))
 ) else none)
 ) else (
 (Option.bind (
 (Option.bind (Zcr F l) fun y_119=>(
 (bif (decide ((16:Int)≤y_119)) then (
 some true
 ) else (
 some (decide ((64:Int)≤(List.length (List.map Zaa.c l):Int)))
 ))
 ))
 ) fun t149_118=>(
 (bif t149_118 then (
 (Option.bind (Zah F (3:Int)) fun y_120=>(
 some (Sum.inl (y_120.1,y_120.2,l))
 ))
 ) else (
 (Option.bind (Zaq F y_5.1 l ((Zaa.mk y_4.1 y_4.2.1 (3:Int) y_4.2.2.2.1 y_4.2.2.2.2.1 y_4.2.2.2.2.2.1 y_4.2.2.2.2.2.2)::[])) fun y_121=>(
 some (Sum.inr y_121)
 ))
 ))
 ))
 ))
 ))
 ))
 ))
 ))
 ))
 ))
 ))
 ))
 ))
 ))
 ) fun o20=>Sum.elim (fun r=>some r) (fun l_86=>(
 (Option.bind (Zah F (0:Int)) fun y_122=>(
 some (y_122.1,y_122.2,l_86)
 ))
 )) o20
def Zbc (F:Nat) (o_:Zae) (l:(List Zaa)):Option (Zam×Zaa×(List Zaa)) :=
 (Zan F o_.Shard o_.Epoch l).bind fun y_0=>(Sum.elim (fun y_0=>( (bif (y_0 != (0:Int)) then ( (Option.bind (Zah F y_0) fun y_1=>( some (y_1.1,y_1.2,l) )) ) else ( none )) )) (fun y_0=>( (bif (y_0.2 != (0:Int)) then ( (Option.bind (Zah F y_0.2) fun y_2=>( some (y_2.1,y_2.2,l) )) ) else ( (Option.bind ((l)[y_0.1]?) fun y_3=>( (bif (y_3.State==(2:Int)) then ( (Option.bind (Zah F (4:Int)) fun y_4=>( some (y_4.1,y_4.2,l) )) ) else ( (Option.bind ((l)[y_0.1]?) fun y_5=>( (Option.bind (Zah F (0:Int)) fun y_6=>( some (y_6.1,y_6.2,(List.set l y_0.1 (Zaa.mk y_5.Id y_5.Epoch (1:Int) y_5.From y_5.To y_5.Jobs y_5.Seen))) )) )) )) )) )) )) y_0)
def ZbL (F:Nat) (id:Int) (l:(List Zaa)):Option (List Zaa) :=
 (Zao F id l).bind fun y_0=>(Sum.elim (fun y_0=>( none )) (fun y_0=>( (Option.bind ((l)[y_0]?) fun y_1=>( (Option.bind (((List.set l y_0 (Zaa.mk y_1.Id y_1.Epoch (4:Int) y_1.From y_1.To y_1.Jobs y_1.Seen)))[y_0]?) fun y_2=>( (Option.bind (((List.set (List.set l y_0 (Zaa.mk y_1.Id y_1.Epoch (4:Int) y_1.From y_1.To y_1.Jobs y_1.Seen)) y_0 (Zaa.mk y_2.Id y_2.Epoch y_2.State y_2.From y_2.To [] y_2.Seen)))[y_0]?) fun y_3=>( some (List.set (List.set (List.set l y_0 (Zaa.mk y_1.Id y_1.Epoch (4:Int) y_1.From y_1.To y_1.Jobs y_1.Seen)) y_0 (Zaa.mk y_2.Id y_2.Epoch y_2.State y_2.From y_2.To [] y_2.Seen)) y_0 (Zaa.mk y_3.Id y_3.Epoch y_3.State y_3.From y_3.To y_3.Jobs [])) )) )) )) )) y_0)
def ZaM (F:Nat) (o_:Zae) (l:(List Zaa)):Option (Zam×Zaa×(List Zaa)) :=
 Option.bind (bif decide (o_.Shard<(1:Int)) then some true else bif decide (o_.Epoch<(1:Int)) then some true else some (decide ((1099511627776:Int)<o_.Epoch))) fun t20_0=>bif t20_0 then (Zah F (1:Int)).bind fun y_1=>some (y_1.1,y_1.2,l) else (ZaR F o_.Shard l).bind fun y_2=>Option.bind (
 (Option.bind (
 (bif (!y_2.2) then (
 some (decide ((64:Int)≤(List.length (List.map Zaa.c l):Int)))
 ) else (
 some false
 ))
 ) fun t35_52=>(
 (bif t35_52 then (
 (Option.bind (Zah F (3:Int)) fun y_53=>(
 some (Sum.inl (y_53.1,y_53.2,l))
 ))
 ) else (
 (bif (!y_2.2) then (
 (Option.bind (Zaq F y_2.1 l ((Zaa.mk o_.Shard o_.Epoch (4:Int) ([]:List UInt8) ([]:List UInt8) [] [])::[])) fun y_54=>(
 some (Sum.inr y_54)
 ))
 ) else (
 (bif decide ((0:Int)≤y_2.1) then (
 (Option.bind ((l)[(Int.toNat y_2.1)]?) fun y_55=>(
 (Option.bind ((l)[(Int.toNat y_2.1)]?) fun y_56=>(
 (bif (y_56.State==(4:Int)) then (
 (bif decide ((0:Int)≤y_2.1) then (
 (Option.bind ((l)[(Int.toNat y_2.1)]?) fun y_57=>(
 (Option.bind ((l)[(Int.toNat y_2.1)]?) fun y_58=>(
 (bif decide ((0:Int)≤y_2.1) then (
 (Option.bind ((l)[(Int.toNat y_2.1)]?) fun y_59=>(
 (Option.bind ((l)[(Int.toNat y_2.1)]?) fun y_60=>(
 some (Sum.inr (List.set l (Int.toNat y_2.1) (Zaa.mk y_60.Id (if (o_.Epoch > y_58.Epoch) then o_.Epoch else y_58.Epoch) y_60.State y_60.From y_60.To y_60.Jobs y_60.Seen)))
 ))
 ))
 ) else none)
 ))
 ))
 ) else none)
 ) else (
 (bif decide ((0:Int)≤y_2.1) then (
 (Option.bind ((l)[(Int.toNat y_2.1)]?) fun y_61=>(
 (Option.bind ((l)[(Int.toNat y_2.1)]?) fun y_62=>(
 (bif (y_62.Epoch != o_.Epoch) then (
 (Option.bind (Zah F (171:Int)) fun y_63=>(
 some (Sum.inl (y_63.1,y_63.2,l))
 ))
 ) else (
 (bif decide ((0:Int)≤y_2.1) then (
 (Option.bind ((l)[(Int.toNat y_2.1)]?) fun y_64=>(
 (Option.bind ((l)[(Int.toNat y_2.1)]?) fun y_65=>(
 (bif (y_65.State==(1:Int)) then (
 (Option.bind (Zah F (4:Int)) fun y_66=>(
 some (Sum.inl (y_66.1,y_66.2,l))
 ))
 ) else (
 (Option.bind (ZbL F o_.Shard l) fun y_67=>(
 some (Sum.inr y_67)
 ))
 ))
 ))
 ))
 ) else none)
 ))
 ))
 ))
 ) else none)
 ))
 ))
 ))
 ) else none)
 ))
 ))
 ))
 ) fun o4=>Sum.elim (fun r=>some r) (fun l_51=>(
 (Option.bind (Zah F (0:Int)) fun y_68=>(
 some (y_68.1,y_68.2,l_51)
 ))
 )) o4
def Zbi (F:Nat) (id:Int) (l:(List Zaa)):Option Bool :=
 (ZaR F id l).bind fun y_0=>some y_0.2
def Zcq (F:Nat) (j:Zaf) (b:Zae):Option Bool :=
 some (!(@Op.bytesLess j.Name b.Key))
def Zau (F:Nat) (s:(List Zaf)) (b:Zae):Nat→Int→Option (((Int) ⊕ Unit))
 | 0,_=>none
 | n_12+1,t8_13=>bif decide (t8_13<(s.length:Int)) then bif decide ((0:Int)≤t8_13) then s[t8_13.toNat]?.bind fun y_16=>(Zcq F y_16 b).bind fun y_17=>bif y_17 then some (Sum.inl t8_13) else (Zau F s b n_12 (wrap .i64 (t8_13+(1:Int)))) else none else some (Sum.inr ())
def Zas (F:Nat) (s:(List Zaf)) (b:Zae):Option Int :=
 Option.bind (
 (Zau F s b F (0:Int))
 ) fun o0=>Sum.elim (fun r=>some r) (fun _=>(
 some (@Neg.neg Int Int.instNegInt (1:Int))
 )) o0
def ZaX (F:Nat) (o_:Zae) (l:(List Zaa)):Option (Zam×Zaa×(List Zaa)) :=
 (Zao F o_.Shard l).bind fun y_0=>(Sum.elim (fun y_0=>( (Option.bind (Zao F o_.Other l) fun y_1=>( (Sum.elim (fun y_1=>( (Option.bind (Zan F o_.Shard o_.Epoch l) fun y_2=>( (Sum.elim (fun y_2=>( (bif (y_2 != (0:Int)) then ( (Option.bind (Zah F y_2) fun y_4=>( some (y_4.1,y_4.2,l) )) ) else ( none )) )) (fun y_2=>( (bif (y_2.2 != (0:Int)) then ( (Option.bind (Zah F y_2.2) fun y_22=>( some (y_22.1,y_22.2,l) )) ) else ( (Option.bind ((l)[y_2.1]?) fun y_23=>( (bif (y_23.State != (1:Int)) then ( (Option.bind (Zah F (4:Int)) fun y_24=>( some (y_24.1,y_24.2,l) )) ) else ( (Option.bind ( (Option.bind ((l)[y_2.1]?) fun y_28=>( (Option.bind (Zcg F y_28.Epoch o_.Past) fun y_29=>( (bif (!y_29) then ( some true ) else ( some (decide (o_.Other<(1:Int))) )) )) )) ) fun t82_27=>( (bif t82_27 then ( (Option.bind (Zah F (1:Int)) fun y_30=>( some (y_30.1,y_30.2,l) )) ) else ( (Option.bind (Zbi F o_.Other l) fun y_31=>( (bif y_31 then ( (Option.bind (Zah F (150:Int)) fun y_32=>( some (y_32.1,y_32.2,l) )) ) else ( (Option.bind ( (Option.bind ((l)[y_2.1]?) fun y_37=>( (Option.bind (Zdu F y_37 o_.Key) fun y_38=>( (bif (!y_38) then ( some true ) else ( (Option.bind ((l)[y_2.1]?) fun y_39=>( some (o_.Key==y_39.From) )) )) )) )) ) fun t107_36=>( (bif t107_36 then ( (Option.bind (Zah F (170:Int)) fun y_40=>( some (y_40.1,y_40.2,l) )) ) else ( (Option.bind ( (Option.bind (Zcr F l) fun y_43=>( (bif (decide ((16:Int)≤y_43)) then ( some true ) else ( some (decide ((64:Int)≤(List.length (List.map Zaa.c l):Int))) )) )) ) fun t127_42=>( (bif t127_42 then ( (Option.bind (Zah F (3:Int)) fun y_44=>( some (y_44.1,y_44.2,l) )) ) else ( (Option.bind ((l)[y_2.1]?) fun y_45=>( (Option.bind (Zas F y_45.Jobs o_) fun y_46=>( (Option.bind ( (bif (decide (y_46<(0:Int))) then ( (Option.bind ((l)[y_2.1]?) fun y_49=>( some (List.length (List.map Zaf.c y_49.Jobs):Int) )) ) else ( some y_46 )) ) fun n_48=>( (Option.bind ((l)[y_2.1]?) fun y_50=>( (Option.bind (ZbS F y_50) fun y_51=>( (bif decide ((0:Int)≤n_48) then ( (bif decide (n_48.toNat≤(y_51.2.2.2.2.2.1.length)) then ( (bif decide ((y_51.2.2.2.2.2.1.length)≤(y_51.2.2.2.2.2.1.length)) then ( (Option.bind ((l)[y_2.1]?) fun y_52=>( (bif decide ((0:Int)≤n_48) then ( (bif decide (0≤n_48.toNat) then ( (bif decide (n_48.toNat≤(y_52.Jobs.length)) then ( (Option.bind (Zai F (List.take n_48.toNat y_52.Jobs)) fun y_53=>( (Option.bind ((l)[y_2.1]?) fun y_54=>( (Option.bind (((List.set l y_2.1 (Zaa.mk y_54.Id o_.Past y_54.State y_54.From y_54.To y_54.Jobs y_54.Seen)))[y_2.1]?) fun y_55=>( (Option.bind (((List.set (List.set l y_2.1 (Zaa.mk y_54.Id o_.Past y_54.State y_54.From y_54.To y_54.Jobs y_54.Seen)) y_2.1 (Zaa.mk y_55.Id y_55.Epoch y_55.State y_55.From o_.Key y_55.Jobs y_55.Seen)))[y_2.1]?) fun y_56=>( (Option.bind (ZaR F o_.Other (List.set (List.set (List.set l y_2.1 (Zaa.mk y_54.Id o_.Past y_54.State y_54.From y_54.To y_54.Jobs y_54.Seen)) y_2.1 (Zaa.mk y_55.Id y_55.Epoch y_55.State y_55.From o_.Key y_55.Jobs y_55.Seen)) y_2.1 (Zaa.mk y_56.Id y_56.Epoch y_56.State y_56.From y_56.To y_53 y_56.Seen))) fun y_57=>( (Option.bind (Zaq F y_57.1 (List.set (List.set (List.set l y_2.1 (Zaa.mk y_54.Id o_.Past y_54.State y_54.From y_54.To y_54.Jobs y_54.Seen)) y_2.1 (Zaa.mk y_55.Id y_55.Epoch y_55.State y_55.From o_.Key y_55.Jobs y_55.Seen)) y_2.1 (Zaa.mk y_56.Id y_56.Epoch y_56.State y_56.From y_56.To y_53 y_56.Seen)) ((Zaa.mk o_.Other o_.Past y_51.2.2.1 o_.Key y_51.2.2.2.2.1 (List.drop n_48.toNat y_51.2.2.2.2.2.1) y_51.2.2.2.2.2.2)::[])) fun y_58=>( (Option.bind (Zah F (0:Int)) fun y_59=>( some (y_59.1,y_59.2,y_58) )) )) )) )) )) )) )) ) else none) ) else none) ) else none) )) ) else none) ) else none) ) else none) )) )) )) )) )) )) )) )) )) )) )) )) )) )) )) )) )) y_2) )) )) (fun y_1=>( (Option.bind (Zan F o_.Shard o_.Epoch l) fun y_60=>( (Sum.elim (fun y_60=>( (bif (y_60 != (0:Int)) then ( (Option.bind (Zah F y_60) fun y_62=>( some (y_62.1,y_62.2,l) )) ) else ( none )) )) (fun y_60=>( (bif (y_60.2 != (0:Int)) then ( (Option.bind (Zah F y_60.2) fun y_80=>( some (y_80.1,y_80.2,l) )) ) else ( (Option.bind ((l)[y_60.1]?) fun y_81=>( (bif (y_81.State != (1:Int)) then ( (Option.bind (Zah F (4:Int)) fun y_82=>( some (y_82.1,y_82.2,l) )) ) else ( (Option.bind ( (Option.bind ((l)[y_60.1]?) fun y_86=>( (Option.bind (Zcg F y_86.Epoch o_.Past) fun y_87=>( (bif (!y_87) then ( some true ) else ( some (decide (o_.Other<(1:Int))) )) )) )) ) fun t82_85=>( (bif t82_85 then ( (Option.bind (Zah F (1:Int)) fun y_88=>( some (y_88.1,y_88.2,l) )) ) else ( (Option.bind (Zbi F o_.Other l) fun y_89=>( (bif y_89 then ( (Option.bind (Zah F (150:Int)) fun y_90=>( some (y_90.1,y_90.2,l) )) ) else ( (Option.bind ( (Option.bind ((l)[y_60.1]?) fun y_95=>( (Option.bind (Zdu F y_95 o_.Key) fun y_96=>( (bif (!y_96) then ( some true ) else ( (Option.bind ((l)[y_60.1]?) fun y_97=>( some (o_.Key==y_97.From) )) )) )) )) ) fun t107_94=>( (bif t107_94 then ( (Option.bind (Zah F (170:Int)) fun y_98=>( some (y_98.1,y_98.2,l) )) ) else ( (Option.bind ( (Option.bind (Zcr F l) fun y_101=>( (bif (decide ((16:Int)≤y_101)) then ( some true ) else ( some (decide ((64:Int)≤(List.length (List.map Zaa.c l):Int))) )) )) ) fun t127_100=>( (bif t127_100 then ( (Option.bind (Zah F (3:Int)) fun y_102=>( some (y_102.1,y_102.2,l) )) ) else ( (Option.bind ((l)[y_60.1]?) fun y_103=>( (Option.bind (Zas F y_103.Jobs o_) fun y_104=>( (Option.bind ( (bif (decide (y_104<(0:Int))) then ( (Option.bind ((l)[y_60.1]?) fun y_107=>( some (List.length (List.map Zaf.c y_107.Jobs):Int) )) ) else ( some y_104 )) ) fun n_106=>( (Option.bind ((l)[y_60.1]?) fun y_108=>( (Option.bind (ZbS F y_108) fun y_109=>( (bif decide ((0:Int)≤n_106) then ( (bif decide (n_106.toNat≤(y_109.2.2.2.2.2.1.length)) then ( (bif decide ((y_109.2.2.2.2.2.1.length)≤(y_109.2.2.2.2.2.1.length)) then ( (Option.bind ((l)[y_60.1]?) fun y_110=>( (bif decide ((0:Int)≤n_106) then ( (bif decide (0≤n_106.toNat) then ( (bif decide (n_106.toNat≤(y_110.Jobs.length)) then ( (Option.bind (Zai F (List.take n_106.toNat y_110.Jobs)) fun y_111=>( (Option.bind ((l)[y_60.1]?) fun y_112=>( (Option.bind (((List.set l y_60.1 (Zaa.mk y_112.Id o_.Past y_112.State y_112.From y_112.To y_112.Jobs y_112.Seen)))[y_60.1]?) fun y_113=>( (Option.bind (((List.set (List.set l y_60.1 (Zaa.mk y_112.Id o_.Past y_112.State y_112.From y_112.To y_112.Jobs y_112.Seen)) y_60.1 (Zaa.mk y_113.Id y_113.Epoch y_113.State y_113.From o_.Key y_113.Jobs y_113.Seen)))[y_60.1]?) fun y_114=>( (Option.bind (ZaR F o_.Other (List.set (List.set (List.set l y_60.1 (Zaa.mk y_112.Id o_.Past y_112.State y_112.From y_112.To y_112.Jobs y_112.Seen)) y_60.1 (Zaa.mk y_113.Id y_113.Epoch y_113.State y_113.From o_.Key y_113.Jobs y_113.Seen)) y_60.1 (Zaa.mk y_114.Id y_114.Epoch y_114.State y_114.From y_114.To y_111 y_114.Seen))) fun y_115=>( (Option.bind (Zaq F y_115.1 (List.set (List.set (List.set l y_60.1 (Zaa.mk y_112.Id o_.Past y_112.State y_112.From y_112.To y_112.Jobs y_112.Seen)) y_60.1 (Zaa.mk y_113.Id y_113.Epoch y_113.State y_113.From o_.Key y_113.Jobs y_113.Seen)) y_60.1 (Zaa.mk y_114.Id y_114.Epoch y_114.State y_114.From y_114.To y_111 y_114.Seen)) ((Zaa.mk o_.Other o_.Past y_109.2.2.1 o_.Key y_109.2.2.2.2.1 (List.drop n_106.toNat y_109.2.2.2.2.2.1) y_109.2.2.2.2.2.2)::[])) fun y_116=>( (Option.bind (Zah F (0:Int)) fun y_117=>( some (y_117.1,y_117.2,y_116) )) )) )) )) )) )) )) ) else none) ) else none) ) else none) )) ) else none) ) else none) ) else none) )) )) )) )) )) )) )) )) )) )) )) )) )) )) )) )) )) y_60) )) )) y_1) )) )) (fun y_0=>( (Option.bind (Zao F o_.Other l) fun y_118=>( (Sum.elim (fun y_118=>( (Option.bind (Zan F o_.Shard o_.Epoch l) fun y_119=>( (Sum.elim (fun y_119=>( (bif (y_119 != (0:Int)) then ( (Option.bind (Zah F y_119) fun y_121=>( some (y_121.1,y_121.2,l) )) ) else ( none )) )) (fun y_119=>( (bif (y_119.2 != (0:Int)) then ( (Option.bind (Zah F y_119.2) fun y_139=>( some (y_139.1,y_139.2,l) )) ) else ( (Option.bind ((l)[y_119.1]?) fun y_140=>( (bif (y_140.State != (1:Int)) then ( (Option.bind (Zah F (4:Int)) fun y_141=>( some (y_141.1,y_141.2,l) )) ) else ( (Option.bind ( (Option.bind ((l)[y_119.1]?) fun y_145=>( (Option.bind (Zcg F y_145.Epoch o_.Past) fun y_146=>( (bif (!y_146) then ( some true ) else ( some (decide (o_.Other<(1:Int))) )) )) )) ) fun t82_144=>( (bif t82_144 then ( (Option.bind (Zah F (1:Int)) fun y_147=>( some (y_147.1,y_147.2,l) )) ) else ( (Option.bind (Zbi F o_.Other l) fun y_148=>( (bif y_148 then ( (Option.bind (Zah F (150:Int)) fun y_149=>( some (y_149.1,y_149.2,l) )) ) else ( (Option.bind ( (Option.bind ((l)[y_119.1]?) fun y_154=>( (Option.bind (Zdu F y_154 o_.Key) fun y_155=>( (bif (!y_155) then ( some true ) else ( (Option.bind ((l)[y_119.1]?) fun y_156=>( some (o_.Key==y_156.From) )) )) )) )) ) fun t107_153=>( (bif t107_153 then ( (Option.bind (Zah F (170:Int)) fun y_157=>( some (y_157.1,y_157.2,l) )) ) else ( (Option.bind ( (Option.bind (Zcr F l) fun y_160=>( (bif (decide ((16:Int)≤y_160)) then ( some true ) else ( some (decide ((64:Int)≤(List.length (List.map Zaa.c l):Int))) )) )) ) fun t127_159=>( (bif t127_159 then ( (Option.bind (Zah F (3:Int)) fun y_161=>( some (y_161.1,y_161.2,l) )) ) else ( (Option.bind ((l)[y_119.1]?) fun y_162=>( (Option.bind (Zas F y_162.Jobs o_) fun y_163=>( (Option.bind ( (bif (decide (y_163<(0:Int))) then ( (Option.bind ((l)[y_119.1]?) fun y_166=>( some (List.length (List.map Zaf.c y_166.Jobs):Int) )) ) else ( some y_163 )) ) fun n_165=>( (Option.bind ((l)[y_119.1]?) fun y_167=>( (Option.bind (ZbS F y_167) fun y_168=>( (bif decide ((0:Int)≤n_165) then ( (bif decide (n_165.toNat≤(y_168.2.2.2.2.2.1.length)) then ( (bif decide ((y_168.2.2.2.2.2.1.length)≤(y_168.2.2.2.2.2.1.length)) then ( (Option.bind ((l)[y_119.1]?) fun y_169=>( (bif decide ((0:Int)≤n_165) then ( (bif decide (0≤n_165.toNat) then ( (bif decide (n_165.toNat≤(y_169.Jobs.length)) then ( (Option.bind (Zai F (List.take n_165.toNat y_169.Jobs)) fun y_170=>( (Option.bind ((l)[y_119.1]?) fun y_171=>( (Option.bind (((List.set l y_119.1 (Zaa.mk y_171.Id o_.Past y_171.State y_171.From y_171.To y_171.Jobs y_171.Seen)))[y_119.1]?) fun y_172=>( (Option.bind (((List.set (List.set l y_119.1 (Zaa.mk y_171.Id o_.Past y_171.State y_171.From y_171.To y_171.Jobs y_171.Seen)) y_119.1 (Zaa.mk y_172.Id y_172.Epoch y_172.State y_172.From o_.Key y_172.Jobs y_172.Seen)))[y_119.1]?) fun y_173=>( (Option.bind (ZaR F o_.Other (List.set (List.set (List.set l y_119.1 (Zaa.mk y_171.Id o_.Past y_171.State y_171.From y_171.To y_171.Jobs y_171.Seen)) y_119.1 (Zaa.mk y_172.Id y_172.Epoch y_172.State y_172.From o_.Key y_172.Jobs y_172.Seen)) y_119.1 (Zaa.mk y_173.Id y_173.Epoch y_173.State y_173.From y_173.To y_170 y_173.Seen))) fun y_174=>( (Option.bind (Zaq F y_174.1 (List.set (List.set (List.set l y_119.1 (Zaa.mk y_171.Id o_.Past y_171.State y_171.From y_171.To y_171.Jobs y_171.Seen)) y_119.1 (Zaa.mk y_172.Id y_172.Epoch y_172.State y_172.From o_.Key y_172.Jobs y_172.Seen)) y_119.1 (Zaa.mk y_173.Id y_173.Epoch y_173.State y_173.From y_173.To y_170 y_173.Seen)) ((Zaa.mk o_.Other o_.Past y_168.2.2.1 o_.Key y_168.2.2.2.2.1 (List.drop n_165.toNat y_168.2.2.2.2.2.1) y_168.2.2.2.2.2.2)::[])) fun y_175=>( (Option.bind (Zah F (0:Int)) fun y_176=>( some (y_176.1,y_176.2,y_175) )) )) )) )) )) )) )) ) else none) ) else none) ) else none) )) ) else none) ) else none) ) else none) )) )) )) )) )) )) )) )) )) )) )) )) )) )) )) )) )) y_119) )) )) (fun y_118=>( (Option.bind ( (Option.bind ((l)[y_0]?) fun y_181=>( (bif (y_181.Epoch==o_.Past) then ( (Option.bind ((l)[y_118]?) fun y_182=>( (bif (y_182.Epoch==o_.Past) then ( (Option.bind ((l)[y_118]?) fun y_183=>( some (y_183.From==o_.Key) )) ) else ( some false )) )) ) else ( some false )) )) ) fun t53_180=>( (bif t53_180 then ( (Option.bind (Zah F (0:Int)) fun y_184=>( some (y_184.1,y_184.2,l) )) ) else ( (Option.bind (Zan F o_.Shard o_.Epoch l) fun y_185=>( (Sum.elim (fun y_185=>( (bif (y_185 != (0:Int)) then ( (Option.bind (Zah F y_185) fun y_187=>( some (y_187.1,y_187.2,l) )) ) else ( none )) )) (fun y_185=>( (bif (y_185.2 != (0:Int)) then ( (Option.bind (Zah F y_185.2) fun y_205=>( some (y_205.1,y_205.2,l) )) ) else ( (Option.bind ((l)[y_185.1]?) fun y_206=>( (bif (y_206.State != (1:Int)) then ( (Option.bind (Zah F (4:Int)) fun y_207=>( some (y_207.1,y_207.2,l) )) ) else ( (Option.bind ( (Option.bind ((l)[y_185.1]?) fun y_211=>( (Option.bind (Zcg F y_211.Epoch o_.Past) fun y_212=>( (bif (!y_212) then ( some true ) else ( some (decide (o_.Other<(1:Int))) )) )) )) ) fun t82_210=>( (bif t82_210 then ( (Option.bind (Zah F (1:Int)) fun y_213=>( some (y_213.1,y_213.2,l) )) ) else ( (Option.bind (Zbi F o_.Other l) fun y_214=>( (bif y_214 then ( (Option.bind (Zah F (150:Int)) fun y_215=>( some (y_215.1,y_215.2,l) )) ) else ( (Option.bind ( (Option.bind ((l)[y_185.1]?) fun y_220=>( (Option.bind (Zdu F y_220 o_.Key) fun y_221=>( (bif (!y_221) then ( some true ) else ( (Option.bind ((l)[y_185.1]?) fun y_222=>( some (o_.Key==y_222.From) )) )) )) )) ) fun t107_219=>( (bif t107_219 then ( (Option.bind (Zah F (170:Int)) fun y_223=>( some (y_223.1,y_223.2,l) )) ) else ( (Option.bind ( (Option.bind (Zcr F l) fun y_226=>( (bif (decide ((16:Int)≤y_226)) then ( some true ) else ( some (decide ((64:Int)≤(List.length (List.map Zaa.c l):Int))) )) )) ) fun t127_225=>( (bif t127_225 then ( (Option.bind (Zah F (3:Int)) fun y_227=>( some (y_227.1,y_227.2,l) )) ) else ( (Option.bind ((l)[y_185.1]?) fun y_228=>( (Option.bind (Zas F y_228.Jobs o_) fun y_229=>( (Option.bind ( (bif (decide (y_229<(0:Int))) then ( (Option.bind ((l)[y_185.1]?) fun y_232=>( some (List.length (List.map Zaf.c y_232.Jobs):Int) )) ) else ( some y_229 )) ) fun n_231=>( (Option.bind ((l)[y_185.1]?) fun y_233=>( (Option.bind (ZbS F y_233) fun y_234=>( (bif decide ((0:Int)≤n_231) then ( (bif decide (n_231.toNat≤(y_234.2.2.2.2.2.1.length)) then ( (bif decide ((y_234.2.2.2.2.2.1.length)≤(y_234.2.2.2.2.2.1.length)) then ( (Option.bind ((l)[y_185.1]?) fun y_235=>( (bif decide ((0:Int)≤n_231) then ( (bif decide (0≤n_231.toNat) then ( (bif decide (n_231.toNat≤(y_235.Jobs.length)) then ( (Option.bind (Zai F (List.take n_231.toNat y_235.Jobs)) fun y_236=>( (Option.bind ((l)[y_185.1]?) fun y_237=>( (Option.bind (((List.set l y_185.1 (Zaa.mk y_237.Id o_.Past y_237.State y_237.From y_237.To y_237.Jobs y_237.Seen)))[y_185.1]?) fun y_238=>( (Option.bind (((List.set (List.set l y_185.1 (Zaa.mk y_237.Id o_.Past y_237.State y_237.From y_237.To y_237.Jobs y_237.Seen)) y_185.1 (Zaa.mk y_238.Id y_238.Epoch y_238.State y_238.From o_.Key y_238.Jobs y_238.Seen)))[y_185.1]?) fun y_239=>( (Option.bind (ZaR F o_.Other (List.set (List.set (List.set l y_185.1 (Zaa.mk y_237.Id o_.Past y_237.State y_237.From y_237.To y_237.Jobs y_237.Seen)) y_185.1 (Zaa.mk y_238.Id y_238.Epoch y_238.State y_238.From o_.Key y_238.Jobs y_238.Seen)) y_185.1 (Zaa.mk y_239.Id y_239.Epoch y_239.State y_239.From y_239.To y_236 y_239.Seen))) fun y_240=>( (Option.bind (Zaq F y_240.1 (List.set (List.set (List.set l y_185.1 (Zaa.mk y_237.Id o_.Past y_237.State y_237.From y_237.To y_237.Jobs y_237.Seen)) y_185.1 (Zaa.mk y_238.Id y_238.Epoch y_238.State y_238.From o_.Key y_238.Jobs y_238.Seen)) y_185.1 (Zaa.mk y_239.Id y_239.Epoch y_239.State y_239.From y_239.To y_236 y_239.Seen)) ((Zaa.mk o_.Other o_.Past y_234.2.2.1 o_.Key y_234.2.2.2.2.1 (List.drop n_231.toNat y_234.2.2.2.2.2.1) y_234.2.2.2.2.2.2)::[])) fun y_241=>( (Option.bind (Zah F (0:Int)) fun y_242=>( some (y_242.1,y_242.2,y_241) )) )) )) )) )) )) )) ) else none) ) else none) ) else none) )) ) else none) ) else none) ) else none) )) )) )) )) )) )) )) )) )) )) )) )) )) )) )) )) )) y_185) )) )) )) )) y_118) )) )) y_0)
def Zbk (F:Nat) (n:Int):Option (List Zaf) :=
 bif decide (0≤n∧Int.toNat n≤LIM) then some [] else none
def Zax (F:Nat) (slices:(List (List Zaf))):Nat→Int→Int→Option (Int)
 | 0,_,_=>none
 | n_7+1,size_8,t11_9=>bif decide (t11_9<(slices.length:Int)) then bif decide ((0:Int)≤t11_9) then slices[t11_9.toNat]?.bind fun y_11=>bif (decide ((wrap .i64 (size_8+(y_11.length:Int)))<(0:Int))) then none else (
 (Zax F slices n_7 (wrap .i64 (size_8+(List.length (List.map Zaf.c y_11):Int))) (wrap .i64 (t11_9+(1:Int))))
 ) else none else some size_8
def Zaw (F:Nat) (slices:(List (List Zaf))):Nat→Int→(List Zaf)→Option ((List Zaf))
 | 0,_,_=>none
 | n_20+1,t27_21,l_22=>bif decide (t27_21<(slices.length:Int)) then bif decide ((0:Int)≤t27_21) then slices[t27_21.toNat]?.bind fun y_24=>bif decide (((l_22.length)+(y_24.length))≤LIM) then (Zaw F slices n_20 (wrap .i64 (t27_21+(1:Int))) (l_22++y_24)) else none else none else some l_22
def Za4 (F:Nat) (slices:(List (List Zaf))):Option (List Zaf) :=
 ((Zax F slices F (0:Int) (0:Int))).bind fun size_4=>(Zbk F size_4).bind fun y_12=>((Zaw F slices F (0:Int) y_12)).bind fun l_17=>some l_17
def Zcf (F:Nat) (y_0:(List Zac)):Nat→Int→(List Zac)→Option ((List Zac))
 | 0,_,_=>none
 | n_32+1,t9_33,l_34=>bif decide (t9_33<(y_0.length:Int)) then bif decide ((0:Int)≤t9_33) then l_34[t9_33.toNat]?.bind fun y_40=>l_34[t9_33.toNat]?.bind fun y_41=>(Zai F y_41.Result.Jobs).bind fun y_42=>bif decide ((0:Int)≤t9_33) then l_34[t9_33.toNat]?.bind fun y_43=>l_34[t9_33.toNat]?.bind fun y_44=>(Zcf F y_0 n_32 (wrap .i64 (t9_33+(1:Int))) (List.set l_34 t9_33.toNat (Zac.mk y_44.Client y_44.Seq (Zam.mk y_44.Result.Err y_44.Result.Time y_42)))) else none else none else some l_34
def Zej (F:Nat) (book:(List Zac)):Option (List Zac) :=
 (ZaG F book).bind fun y_0=>((Zcf F y_0 F (0:Int) y_0)).bind fun l_21=>some l_21
def Zei (F:Nat) (s:Zac) (client:Int):Option Int :=
 (Zct F s.Client client).bind fun y_0=>some y_0
def Zal (F:Nat) (x:(List Zac)) (target:Int):Nat→Int→Int→Option (Int)
 | 0,_,_=>none
 | n_7+1,i_8,j_9=>bif decide (i_8<j_9) then bif decide ((0:Int)≤(wrap .i64 (@Int.fdiv (wrap .u64 (wrap .i64 (i_8+j_9))) ((2:Int) ^ (min (Int.toNat (1:Int)) 64))))) then x[(Int.toNat (wrap .i64 (@Int.fdiv (wrap .u64 (wrap .i64 (i_8+j_9))) ((2:Int) ^ (min (Int.toNat (1:Int)) 64)))))]?.bind fun y_10=>(Zei F y_10 target).bind fun y_11=>bif decide (y_11<(0:Int)) then (Zal F x target n_7 (wrap .i64 ((wrap .i64 (@Int.fdiv (wrap .u64 (wrap .i64 (i_8+j_9))) ((2:Int) ^ (min (Int.toNat (1:Int)) 64))))+(1:Int))) j_9) else (Zal F x target n_7 i_8 (wrap .i64 (@Int.fdiv (wrap .u64 (wrap .i64 (i_8+j_9))) ((2:Int) ^ (min (Int.toNat (1:Int)) 64))))) else none else some i_8
def ZaV (F:Nat) (x:(List Zac)) (target:Int):Option (Int×Bool) :=
 ((Zal F x target F (0:Int) (List.length (List.map Zac.c x):Int))).bind fun i_4=>bif decide (i_4<(x.length:Int)) then bif decide ((0:Int)≤i_4) then x[i_4.toNat]?.bind fun y_12=>(Zei F y_12 target).bind fun y_13=>some (i_4,(y_13==(0:Int))) else none else some (i_4,false)
def Zff (F:Nat) (book:(List Zac)) (client:Int):Option (Int×Bool) :=
 (ZaV F book client).bind fun y_0=>some (y_0.1,y_0.2)
def Zbz (F:Nat) (i:Int) (l:(List Zac)) (l_2:(List Zac)):Option (List Zac) :=
 match l_2 with
 | [x]=>bif decide (0≤i∧Int.toNat i≤l.length∧l.length<LIM) then some (List.take i.toNat l++x::List.drop i.toNat l) else none
 | _=>none
def ZgN (F:Nat) (book:(List Zac)) (s:Zac):Option ((List Zac)×Int) :=
 (Zbl F book).bind fun y_0=>bif !y_0 then some ([],(4:Int)) else (Zdv F s.Client s.Seq).bind fun y_1=>bif !y_1 then some ([],(1:Int)) else (Zff F book s.Client).bind fun y_2=>Option.bind (bif y_2.2 then bif decide ((0:Int)≤y_2.1) then book[(Int.toNat y_2.1)]?.bind fun y_5=>some (decide (s.Seq≤y_5.Seq)) else none else some false) fun t35_4=>bif t35_4 then some ([],(160:Int)) else (ZaG F book).bind fun y_6=>Option.bind (bif y_2.2 then bif decide ((0:Int)≤y_2.1) then y_6[(Int.toNat y_2.1)]?.bind fun y_11=>y_6[(Int.toNat y_2.1)]?.bind fun y_12=>some (List.set y_6 (Int.toNat y_2.1) s) else none else (Zbz F y_2.1 y_6 (s::[])).bind fun y_13=>some y_13) fun l_10=>(Zej F l_10).bind fun y_14=>some (y_14,(0:Int))
def ZcX (F:Nat) (b:(List Zac)):Nat→(List Zac)→Int→Option ((List Zac))
 | 0,_,_=>none
 | n_16+1,out_17,t23_18=>bif decide (t23_18<(b.length:Int)) then Option.bind (bif decide ((0:Int)≤t23_18) then b[t23_18.toNat]?.bind fun y_22=>(ZgN F out_17 y_22).bind fun y_23=>bif y_23.2==(0:Int) then some y_23.1 else some out_17 else none) fun out_21=>(ZcX F b n_16 out_21 (wrap .i64 (t23_18+(1:Int)))) else some out_17
def ZdJ (F:Nat) (a:(List Zac)) (b:(List Zac)):Option ((List Zac)×Int) :=
 Option.bind ((Zbl F a).bind fun y_3=>bif !y_3 then some true else (Zbl F b).bind fun y_4=>some (!y_4)) fun t18_2=>bif t18_2 then some ([],(4:Int)) else (Zej F a).bind fun y_5=>((ZcX F b F y_5 (0:Int))).bind fun out_12=>some (out_12,(0:Int))
def ZaK (F:Nat) (o_:Zae) (l:(List Zaa)):Option (Zam×Zaa×(List Zaa)) :=
 (Zao F o_.Shard l).bind fun y_0=>(Sum.elim (fun y_0=>( (Option.bind (Zao F o_.Other l) fun y_1=>( (Sum.elim (fun y_1=>( (Option.bind (Zan F o_.Shard o_.Epoch l) fun y_2=>( (Sum.elim (fun y_2=>( (bif (y_2 != (0:Int)) then ( (Option.bind (Zah F y_2) fun y_5=>( some (y_5.1,y_5.2,l) )) ) else ( (Option.bind (Zah F (172:Int)) fun y_6=>( some (y_6.1,y_6.2,l) )) )) )) (fun y_2=>( (bif (y_2.2 != (0:Int)) then ( (Option.bind (Zah F y_2.2) fun y_9=>( some (y_9.1,y_9.2,l) )) ) else ( (Option.bind (Zah F (172:Int)) fun y_10=>( some (y_10.1,y_10.2,l) )) )) )) y_2) )) )) (fun y_1=>( (Option.bind (Zan F o_.Shard o_.Epoch l) fun y_11=>( (Sum.elim (fun y_11=>( (bif (y_11 != (0:Int)) then ( (Option.bind (Zah F y_11) fun y_16=>( some (y_16.1,y_16.2,l) )) ) else ( (bif (o_.Other==o_.Shard) then ( (Option.bind (Zah F (172:Int)) fun y_17=>( some (y_17.1,y_17.2,l) )) ) else ( (Option.bind ((l)[y_1]?) fun y_18=>( (bif (y_18.Epoch != o_.State.Epoch) then ( (Option.bind (Zah F (171:Int)) fun y_19=>( some (y_19.1,y_19.2,l) )) ) else ( none )) )) )) )) )) (fun y_11=>( (bif (y_11.2 != (0:Int)) then ( (Option.bind (Zah F y_11.2) fun y_40=>( some (y_40.1,y_40.2,l) )) ) else ( (bif (o_.Other==o_.Shard) then ( (Option.bind (Zah F (172:Int)) fun y_41=>( some (y_41.1,y_41.2,l) )) ) else ( (Option.bind ((l)[y_1]?) fun y_42=>( (bif (y_42.Epoch != o_.State.Epoch) then ( (Option.bind (Zah F (171:Int)) fun y_43=>( some (y_43.1,y_43.2,l) )) ) else ( (Option.bind ( (Option.bind ((l)[y_11.1]?) fun y_47=>( (bif (y_47.State != (1:Int)) then ( some true ) else ( (Option.bind ((l)[y_1]?) fun y_48=>( some (y_48.State != (1:Int)) )) )) )) ) fun t76_46=>( (bif t76_46 then ( (Option.bind (Zah F (4:Int)) fun y_49=>( some (y_49.1,y_49.2,l) )) ) else ( (Option.bind ((l)[y_11.1]?) fun y_50=>( (Option.bind ((l)[y_1]?) fun y_51=>( (Option.bind (Zcg F (if (y_51.Epoch > y_50.Epoch) then y_51.Epoch else y_50.Epoch) o_.Past) fun y_52=>( (bif (!y_52) then ( (Option.bind (Zah F (1:Int)) fun y_53=>( some (y_53.1,y_53.2,l) )) ) else ( (Option.bind ( (Option.bind ((l)[y_11.1]?) fun y_58=>( (bif (y_58.To==([]:List UInt8)) then ( some true ) else ( (Option.bind ((l)[y_11.1]?) fun y_59=>( (Option.bind ((l)[y_1]?) fun y_60=>( some (!(y_59.To==y_60.From)) )) )) )) )) ) fun t109_57=>( (bif t109_57 then ( (Option.bind (Zah F (170:Int)) fun y_61=>( some (y_61.1,y_61.2,l) )) ) else ( (Option.bind ((l)[y_11.1]?) fun y_62=>( (Option.bind ((l)[y_1]?) fun y_63=>( (bif (decide ((256:Int)<(wrap .i64 ((y_62.Jobs.length:Int)+(y_63.Jobs.length:Int))))) then ( (Option.bind (Zah F (3:Int)) fun y_64=>( some (y_64.1,y_64.2,l) )) ) else ( (Option.bind ((l)[y_1]?) fun y_65=>( (Option.bind ((l)[y_11.1]?) fun y_66=>( (Option.bind ((l)[y_1]?) fun y_67=>( (Option.bind (Za4 F (y_66.Jobs::(y_67.Jobs::[]))) fun y_68=>( (Option.bind ((l)[y_11.1]?) fun y_69=>( (Option.bind (((List.set l y_11.1 (Zaa.mk y_69.Id o_.Past y_69.State y_69.From y_69.To y_69.Jobs y_69.Seen)))[y_11.1]?) fun y_70=>( (Option.bind (((List.set (List.set l y_11.1 (Zaa.mk y_69.Id o_.Past y_69.State y_69.From y_69.To y_69.Jobs y_69.Seen)) y_11.1 (Zaa.mk y_70.Id y_70.Epoch y_70.State y_70.From y_65.To y_70.Jobs y_70.Seen)))[y_11.1]?) fun y_71=>( (Option.bind (((List.set (List.set (List.set l y_11.1 (Zaa.mk y_69.Id o_.Past y_69.State y_69.From y_69.To y_69.Jobs y_69.Seen)) y_11.1 (Zaa.mk y_70.Id y_70.Epoch y_70.State y_70.From y_65.To y_70.Jobs y_70.Seen)) y_11.1 (Zaa.mk y_71.Id y_71.Epoch y_71.State y_71.From y_71.To y_68 y_71.Seen)))[y_11.1]?) fun y_72=>( (Option.bind (((List.set (List.set (List.set l y_11.1 (Zaa.mk y_69.Id o_.Past y_69.State y_69.From y_69.To y_69.Jobs y_69.Seen)) y_11.1 (Zaa.mk y_70.Id y_70.Epoch y_70.State y_70.From y_65.To y_70.Jobs y_70.Seen)) y_11.1 (Zaa.mk y_71.Id y_71.Epoch y_71.State y_71.From y_71.To y_68 y_71.Seen)))[y_1]?) fun y_73=>( (Option.bind (ZdJ F y_72.Seen y_73.Seen) fun y_74=>( (Option.bind (((List.set (List.set (List.set l y_11.1 (Zaa.mk y_69.Id o_.Past y_69.State y_69.From y_69.To y_69.Jobs y_69.Seen)) y_11.1 (Zaa.mk y_70.Id y_70.Epoch y_70.State y_70.From y_65.To y_70.Jobs y_70.Seen)) y_11.1 (Zaa.mk y_71.Id y_71.Epoch y_71.State y_71.From y_71.To y_68 y_71.Seen)))[y_11.1]?) fun y_75=>( (Option.bind (ZbL F o_.Other (List.set (List.set (List.set (List.set l y_11.1 (Zaa.mk y_69.Id o_.Past y_69.State y_69.From y_69.To y_69.Jobs y_69.Seen)) y_11.1 (Zaa.mk y_70.Id y_70.Epoch y_70.State y_70.From y_65.To y_70.Jobs y_70.Seen)) y_11.1 (Zaa.mk y_71.Id y_71.Epoch y_71.State y_71.From y_71.To y_68 y_71.Seen)) y_11.1 (Zaa.mk y_75.Id y_75.Epoch y_75.State y_75.From y_75.To y_75.Jobs y_74.1))) fun y_76=>( (Option.bind (Zah F (0:Int)) fun y_77=>( some (y_77.1,y_77.2,y_76) )) )) )) )) )) )) )) )) )) )) )) )) )) )) )) )) )) )) )) )) )) )) )) )) )) )) )) )) )) y_11) )) )) y_1) )) )) (fun y_0=>( (Option.bind (Zao F o_.Other l) fun y_78=>( (Sum.elim (fun y_78=>( (Option.bind ((l)[y_0]?) fun y_80=>( (bif (y_80.Epoch==o_.Past) then ( (Option.bind (Zah F (0:Int)) fun y_81=>( some (y_81.1,y_81.2,l) )) ) else ( (Option.bind (Zan F o_.Shard o_.Epoch l) fun y_82=>( (Sum.elim (fun y_82=>( (bif (y_82 != (0:Int)) then ( (Option.bind (Zah F y_82) fun y_85=>( some (y_85.1,y_85.2,l) )) ) else ( (Option.bind (Zah F (172:Int)) fun y_86=>( some (y_86.1,y_86.2,l) )) )) )) (fun y_82=>( (bif (y_82.2 != (0:Int)) then ( (Option.bind (Zah F y_82.2) fun y_89=>( some (y_89.1,y_89.2,l) )) ) else ( (Option.bind (Zah F (172:Int)) fun y_90=>( some (y_90.1,y_90.2,l) )) )) )) y_82) )) )) )) )) (fun y_78=>( (Option.bind (Zan F o_.Shard o_.Epoch l) fun y_91=>( (Sum.elim (fun y_91=>( (bif (y_91 != (0:Int)) then ( (Option.bind (Zah F y_91) fun y_96=>( some (y_96.1,y_96.2,l) )) ) else ( (bif (o_.Other==o_.Shard) then ( (Option.bind (Zah F (172:Int)) fun y_97=>( some (y_97.1,y_97.2,l) )) ) else ( (Option.bind ((l)[y_78]?) fun y_98=>( (bif (y_98.Epoch != o_.State.Epoch) then ( (Option.bind (Zah F (171:Int)) fun y_99=>( some (y_99.1,y_99.2,l) )) ) else ( none )) )) )) )) )) (fun y_91=>( (bif (y_91.2 != (0:Int)) then ( (Option.bind (Zah F y_91.2) fun y_120=>( some (y_120.1,y_120.2,l) )) ) else ( (bif (o_.Other==o_.Shard) then ( (Option.bind (Zah F (172:Int)) fun y_121=>( some (y_121.1,y_121.2,l) )) ) else ( (Option.bind ((l)[y_78]?) fun y_122=>( (bif (y_122.Epoch != o_.State.Epoch) then ( (Option.bind (Zah F (171:Int)) fun y_123=>( some (y_123.1,y_123.2,l) )) ) else ( (Option.bind ( (Option.bind ((l)[y_91.1]?) fun y_127=>( (bif (y_127.State != (1:Int)) then ( some true ) else ( (Option.bind ((l)[y_78]?) fun y_128=>( some (y_128.State != (1:Int)) )) )) )) ) fun t76_126=>( (bif t76_126 then ( (Option.bind (Zah F (4:Int)) fun y_129=>( some (y_129.1,y_129.2,l) )) ) else ( (Option.bind ((l)[y_91.1]?) fun y_130=>( (Option.bind ((l)[y_78]?) fun y_131=>( (Option.bind (Zcg F (if (y_131.Epoch > y_130.Epoch) then y_131.Epoch else y_130.Epoch) o_.Past) fun y_132=>( (bif (!y_132) then ( (Option.bind (Zah F (1:Int)) fun y_133=>( some (y_133.1,y_133.2,l) )) ) else ( (Option.bind ( (Option.bind ((l)[y_91.1]?) fun y_138=>( (bif (y_138.To==([]:List UInt8)) then ( some true ) else ( (Option.bind ((l)[y_91.1]?) fun y_139=>( (Option.bind ((l)[y_78]?) fun y_140=>( some (!(y_139.To==y_140.From)) )) )) )) )) ) fun t109_137=>( (bif t109_137 then ( (Option.bind (Zah F (170:Int)) fun y_141=>( some (y_141.1,y_141.2,l) )) ) else ( (Option.bind ((l)[y_91.1]?) fun y_142=>( (Option.bind ((l)[y_78]?) fun y_143=>( (bif (decide ((256:Int)<(wrap .i64 ((y_142.Jobs.length:Int)+(y_143.Jobs.length:Int))))) then ( (Option.bind (Zah F (3:Int)) fun y_144=>( some (y_144.1,y_144.2,l) )) ) else ( (Option.bind ((l)[y_78]?) fun y_145=>( (Option.bind ((l)[y_91.1]?) fun y_146=>( (Option.bind ((l)[y_78]?) fun y_147=>( (Option.bind (Za4 F (y_146.Jobs::(y_147.Jobs::[]))) fun y_148=>( (Option.bind ((l)[y_91.1]?) fun y_149=>( (Option.bind (((List.set l y_91.1 (Zaa.mk y_149.Id o_.Past y_149.State y_149.From y_149.To y_149.Jobs y_149.Seen)))[y_91.1]?) fun y_150=>( (Option.bind (((List.set (List.set l y_91.1 (Zaa.mk y_149.Id o_.Past y_149.State y_149.From y_149.To y_149.Jobs y_149.Seen)) y_91.1 (Zaa.mk y_150.Id y_150.Epoch y_150.State y_150.From y_145.To y_150.Jobs y_150.Seen)))[y_91.1]?) fun y_151=>( (Option.bind (((List.set (List.set (List.set l y_91.1 (Zaa.mk y_149.Id o_.Past y_149.State y_149.From y_149.To y_149.Jobs y_149.Seen)) y_91.1 (Zaa.mk y_150.Id y_150.Epoch y_150.State y_150.From y_145.To y_150.Jobs y_150.Seen)) y_91.1 (Zaa.mk y_151.Id y_151.Epoch y_151.State y_151.From y_151.To y_148 y_151.Seen)))[y_91.1]?) fun y_152=>( (Option.bind (((List.set (List.set (List.set l y_91.1 (Zaa.mk y_149.Id o_.Past y_149.State y_149.From y_149.To y_149.Jobs y_149.Seen)) y_91.1 (Zaa.mk y_150.Id y_150.Epoch y_150.State y_150.From y_145.To y_150.Jobs y_150.Seen)) y_91.1 (Zaa.mk y_151.Id y_151.Epoch y_151.State y_151.From y_151.To y_148 y_151.Seen)))[y_78]?) fun y_153=>( (Option.bind (ZdJ F y_152.Seen y_153.Seen) fun y_154=>( (Option.bind (((List.set (List.set (List.set l y_91.1 (Zaa.mk y_149.Id o_.Past y_149.State y_149.From y_149.To y_149.Jobs y_149.Seen)) y_91.1 (Zaa.mk y_150.Id y_150.Epoch y_150.State y_150.From y_145.To y_150.Jobs y_150.Seen)) y_91.1 (Zaa.mk y_151.Id y_151.Epoch y_151.State y_151.From y_151.To y_148 y_151.Seen)))[y_91.1]?) fun y_155=>( (Option.bind (ZbL F o_.Other (List.set (List.set (List.set (List.set l y_91.1 (Zaa.mk y_149.Id o_.Past y_149.State y_149.From y_149.To y_149.Jobs y_149.Seen)) y_91.1 (Zaa.mk y_150.Id y_150.Epoch y_150.State y_150.From y_145.To y_150.Jobs y_150.Seen)) y_91.1 (Zaa.mk y_151.Id y_151.Epoch y_151.State y_151.From y_151.To y_148 y_151.Seen)) y_91.1 (Zaa.mk y_155.Id y_155.Epoch y_155.State y_155.From y_155.To y_155.Jobs y_154.1))) fun y_156=>( (Option.bind (Zah F (0:Int)) fun y_157=>( some (y_157.1,y_157.2,y_156) )) )) )) )) )) )) )) )) )) )) )) )) )) )) )) )) )) )) )) )) )) )) )) )) )) )) )) )) )) y_91) )) )) y_78) )) )) y_0)
def Zdk (F:Nat) (list:(List Zaa)):Nat→Int→(List Zaa)→Option ((List Zaa))
 | 0,_,_=>none
 | n_14+1,t23_15,l_16=>bif decide (t23_15<(list.length:Int)) then bif decide ((0:Int)≤t23_15) then list[t23_15.toNat]?.bind fun y_19=>(ZbS F y_19).bind fun y_20=>bif decide (((l_16.length)+1)≤LIM) then (Zdk F list n_14 (wrap .i64 (t23_15+(1:Int))) (l_16++((Zaa.mk y_20.1 y_20.2.1 y_20.2.2.1 y_20.2.2.2.1 y_20.2.2.2.2.1 y_20.2.2.2.2.2.1 y_20.2.2.2.2.2.2)::[]))) else none else none else some l_16
def Ze3 (F:Nat) (list:(List Zaa)) (o_:Zae):Option (Zam×Zaa×(List Zaa)) :=
 (Zc0 F list).bind fun y_0=>bif !y_0 then some ((Zam.mk (4:Int) (0:Int) []),(Zaa.mk (0:Int) (0:Int) (0:Int) ([]:List UInt8) ([]:List UInt8) [] []),[]) else ((Zdk F list F (0:Int) [])).bind fun l_9=>(Ze1 F).bind fun y_21=>bif o_.Kind==y_21.1 then none else bif o_.Kind==y_21.2.1 then (ZaY F o_ l_9).bind fun y_22=>(Zai F y_22.1.Jobs).bind fun y_23=>some ((Zam.mk y_22.1.Err y_22.1.Time y_23),y_22.2.1,y_22.2.2) else bif o_.Kind==y_21.2.2.1 then (Zbn F o_ l_9).bind fun y_24=>(Zai F y_24.1.Jobs).bind fun y_25=>some ((Zam.mk y_24.1.Err y_24.1.Time y_25),y_24.2.1,y_24.2.2) else bif o_.Kind==y_21.2.2.2.1 then (Za0 F o_ l_9).bind fun y_26=>(Zai F y_26.1.Jobs).bind fun y_27=>some ((Zam.mk y_26.1.Err y_26.1.Time y_27),y_26.2.1,y_26.2.2) else bif o_.Kind==y_21.2.2.2.2.1 then (Zbc F o_ l_9).bind fun y_28=>(Zai F y_28.1.Jobs).bind fun y_29=>some ((Zam.mk y_28.1.Err y_28.1.Time y_29),y_28.2.1,y_28.2.2) else bif o_.Kind==y_21.2.2.2.2.2.1 then (ZaM F o_ l_9).bind fun y_30=>(Zai F y_30.1.Jobs).bind fun y_31=>some ((Zam.mk y_30.1.Err y_30.1.Time y_31),y_30.2.1,y_30.2.2) else bif o_.Kind==y_21.2.2.2.2.2.2.1 then (ZaX F o_ l_9).bind fun y_32=>(Zai F y_32.1.Jobs).bind fun y_33=>some ((Zam.mk y_32.1.Err y_32.1.Time y_33),y_32.2.1,y_32.2.2) else bif o_.Kind==y_21.2.2.2.2.2.2.2 then (ZaK F o_ l_9).bind fun y_34=>(Zai F y_34.1.Jobs).bind fun y_35=>some ((Zam.mk y_34.1.Err y_34.1.Time y_35),y_34.2.1,y_34.2.2) else some ((Zam.mk (1:Int) (0:Int) []),(Zaa.mk (0:Int) (0:Int) (0:Int) ([]:List UInt8) ([]:List UInt8) [] []),l_9)
def Zbe (F:Nat) (i:Int) (l:(List Zab)) (l_2:(List Zab)):Option (List Zab) :=
 match l_2 with
 | [x]=>bif decide (0≤i∧Int.toNat i≤l.length∧l.length<LIM) then some (List.take i.toNat l++x::List.drop i.toNat l) else none
 | _=>none
def Zbg (F:Nat) (i:Int) (j:Int) (l:(List Zab)):Option (List Zab) :=
 bif decide (0≤i∧j=i+1∧Int.toNat i<l.length) then some (List.take i.toNat l++List.drop (Int.toNat i+1) l) else none
def Za6 (F:Nat) (a:Zag) (phase:Int):Option (Zag×Int) :=
 (Zbb F a).bind fun y_0=>bif !y_0 then some ((Zag.mk (0:Int) (0:Int) [] (Zap.mk (0:Int) (0:Int) (0:Int) (0:Int) (0:Int) (0:Int) (0:Int) ([]:List UInt8))),(4:Int)) else (ZcT F a).bind fun y_1=>Option.bind (bif y_1.2.2.1==(0:Int) then some true else some (y_1.2.2.2.1 != phase)) fun t27_2=>bif t27_2 then some ((Zag.mk y_1.1 y_1.2.1 y_1.2.2.2.2.2.2.2.2.2.2 (Zap.mk y_1.2.2.1 y_1.2.2.2.1 y_1.2.2.2.2.1 y_1.2.2.2.2.2.1 y_1.2.2.2.2.2.2.1 y_1.2.2.2.2.2.2.2.1 y_1.2.2.2.2.2.2.2.2.1 y_1.2.2.2.2.2.2.2.2.2.1)),(4:Int)) else (Zco F (Zag.mk y_1.1 y_1.2.1 y_1.2.2.2.2.2.2.2.2.2.2 (Zap.mk y_1.2.2.1 y_1.2.2.2.1 y_1.2.2.2.2.1 y_1.2.2.2.2.2.1 y_1.2.2.2.2.2.2.1 y_1.2.2.2.2.2.2.2.1 y_1.2.2.2.2.2.2.2.2.1 y_1.2.2.2.2.2.2.2.2.2.1)) y_1.2.2.2.2.1).bind fun y_3=>bif decide ((0:Int)≤y_3) then ((y_1.2.2.2.2.2.2.2.2.2.2)[y_3.toNat]?).bind fun y_4=>Option.bind (bif phase==(9:Int) then some ((0:Int),(0:Int),(0:Int),(0:Int),(0:Int),(0:Int),(0:Int),([]:List UInt8),y_1.2.2.2.2.2.2.2.2.2.2) else Option.bind (bif y_1.2.2.1==(1:Int) then some (phase==(1:Int)) else some false) fun t42_30=>bif t42_30 then ((y_1.2.2.2.2.2.2.2.2.2.2)[y_3.toNat]?).bind fun y_31=>((y_1.2.2.2.2.2.2.2.2.2.2)[y_3.toNat]?).bind fun y_32=>(((List.set y_1.2.2.2.2.2.2.2.2.2.2 y_3.toNat (Zab.mk y_32.From y_32.To y_32.Shard y_32.Epoch y_1.2.2.2.2.2.2.1)))[y_3.toNat]?).bind fun y_33=>some (y_1.2.2.1,(2:Int),y_1.2.2.2.2.1,y_1.2.2.2.2.2.1,y_1.2.2.2.2.2.2.1,y_1.2.2.2.2.2.2.2.1,y_1.2.2.2.2.2.2.2.2.1,y_1.2.2.2.2.2.2.2.2.2.1,(List.set (List.set y_1.2.2.2.2.2.2.2.2.2.2 y_3.toNat (Zab.mk y_32.From y_32.To y_32.Shard y_32.Epoch y_1.2.2.2.2.2.2.1)) y_3.toNat (Zab.mk y_33.From y_33.To y_33.Shard (wrap .i64 (y_31.Epoch+(1:Int))) y_33.Group))) else Option.bind (bif y_1.2.2.1==(1:Int) then some (phase==(2:Int)) else some false) fun t66_34=>bif t66_34 then some (y_1.2.2.1,(3:Int),y_1.2.2.2.2.1,y_1.2.2.2.2.2.1,y_1.2.2.2.2.2.2.1,y_1.2.2.2.2.2.2.2.1,y_1.2.2.2.2.2.2.2.2.1,y_1.2.2.2.2.2.2.2.2.2.1,y_1.2.2.2.2.2.2.2.2.2.2) else bif y_1.2.2.1==(2:Int) then ((y_1.2.2.2.2.2.2.2.2.2.2)[y_3.toNat]?).bind fun y_35=>((y_1.2.2.2.2.2.2.2.2.2.2)[y_3.toNat]?).bind fun y_36=>(((List.set y_1.2.2.2.2.2.2.2.2.2.2 y_3.toNat (Zab.mk y_36.From y_36.To y_36.Shard (wrap .i64 (y_35.Epoch+(1:Int))) y_36.Group)))[y_3.toNat]?).bind fun y_37=>(((List.set y_1.2.2.2.2.2.2.2.2.2.2 y_3.toNat (Zab.mk y_36.From y_36.To y_36.Shard (wrap .i64 (y_35.Epoch+(1:Int))) y_36.Group)))[y_3.toNat]?).bind fun y_38=>(Zbe F (wrap .i64 (y_3+(1:Int))) (List.set (List.set y_1.2.2.2.2.2.2.2.2.2.2 y_3.toNat (Zab.mk y_36.From y_36.To y_36.Shard (wrap .i64 (y_35.Epoch+(1:Int))) y_36.Group)) y_3.toNat (Zab.mk y_38.From y_1.2.2.2.2.2.2.2.2.2.1 y_38.Shard y_38.Epoch y_38.Group)) ((Zab.mk y_1.2.2.2.2.2.2.2.2.2.1 y_37.To y_1.2.2.2.2.2.1 y_37.Epoch y_37.Group)::[])).bind fun y_39=>some ((0:Int),(0:Int),(0:Int),(0:Int),(0:Int),(0:Int),(0:Int),([]:List UInt8),y_39) else bif y_1.2.2.1==(3:Int) then bif decide ((0:Int)≤(wrap .i64 (y_3+(1:Int)))) then ((y_1.2.2.2.2.2.2.2.2.2.2)[(Int.toNat (wrap .i64 (y_3+(1:Int))))]?).bind fun y_40=>((y_1.2.2.2.2.2.2.2.2.2.2)[(Int.toNat (wrap .i64 (y_3+(1:Int))))]?).bind fun y_41=>((y_1.2.2.2.2.2.2.2.2.2.2)[y_3.toNat]?).bind fun y_42=>((y_1.2.2.2.2.2.2.2.2.2.2)[y_3.toNat]?).bind fun y_43=>(((List.set y_1.2.2.2.2.2.2.2.2.2.2 y_3.toNat (Zab.mk y_43.From y_41.To y_43.Shard y_43.Epoch y_43.Group)))[y_3.toNat]?).bind fun y_44=>(Zbg F (wrap .i64 (y_3+(1:Int))) (wrap .i64 (y_3+(2:Int))) (List.set (List.set y_1.2.2.2.2.2.2.2.2.2.2 y_3.toNat (Zab.mk y_43.From y_41.To y_43.Shard y_43.Epoch y_43.Group)) y_3.toNat (Zab.mk y_44.From y_44.To y_44.Shard (wrap .i64 ((if (y_41.Epoch > y_42.Epoch) then y_41.Epoch else y_42.Epoch)+(1:Int))) y_44.Group))).bind fun y_45=>some ((0:Int),(0:Int),(0:Int),(0:Int),(0:Int),(0:Int),(0:Int),([]:List UInt8),y_45) else none else some ((0:Int),(0:Int),(0:Int),(0:Int),(0:Int),(0:Int),(0:Int),([]:List UInt8),y_1.2.2.2.2.2.2.2.2.2.2)) fun (c_21,c_22,c_23,c_24,c_25,c_26,c_27,c_28,l_29)=>some ((Zag.mk y_1.1 y_1.2.1 l_29 (Zap.mk c_21 c_22 c_23 c_24 c_25 c_26 c_27 c_28)),(0:Int)) else none
def ZbA (F:Nat) (l:(List Zaa)) (id:Int):Nat→Int→Option (((Int) ⊕ Unit))
 | 0,_=>none
 | n_6+1,i_7=>bif decide (i_7<(l.length:Int)) then bif decide ((0:Int)≤i_7) then l[i_7.toNat]?.bind fun y_9=>bif y_9.Id==id then some (Sum.inl i_7) else (ZbA F l id n_6 (wrap .i64 (i_7+(1:Int)))) else none else some (Sum.inr ())
def Zdy (F:Nat) (l:(List Zaa)) (id:Int):Option Int :=
 Option.bind (
 (ZbA F l id F (0:Int))
 ) fun o0=>Sum.elim (fun r=>some r) (fun _=>(
 some (@Neg.neg Int Int.instNegInt (1:Int))
 )) o0
def Zb4 (F:Nat) (l:(List Zaa)) (id:Int):Option Int :=
 (Zdy F l id).bind fun y_0=>Option.bind (bif decide ((0:Int)≤y_0) then bif decide ((0:Int)≤y_0) then l[y_0.toNat]?.bind fun y_3=>some (y_3.State==(4:Int)) else none else some false) fun t18_2=>bif t18_2 then some (@Neg.neg Int Int.instNegInt (1:Int)) else some y_0
def ZcP (F:Nat) (client:Int) (seq:Int):Option Bool :=
 bif decide ((1:Int)≤client) then bif decide (client≤(64:Int)) then some (decide ((1:Int)≤seq)) else some false else some false
def Zbq (F:Nat) (l:(List Zac)):Nat→Int→Int→Option (((Bool) ⊕ Unit))
 | 0,_,_=>none
 | n_36+1,last_37,i_38=>bif decide (i_38<(l.length:Int)) then Option.bind (bif decide ((0:Int)≤i_38) then l[i_38.toNat]?.bind fun y_50=>bif decide ((0:Int)≤i_38) then l[i_38.toNat]?.bind fun y_51=>(ZcP F y_50.Client y_51.Seq).bind fun y_52=>bif !y_52 then some true else bif decide ((0:Int)≤i_38) then l[i_38.toNat]?.bind fun y_53=>some (decide (y_53.Client≤last_37)) else none else none else none) fun t31_49=>bif t31_49 then some (Sum.inl false) else bif decide ((0:Int)≤i_38) then l[i_38.toNat]?.bind fun y_54=>(Zbq F l n_36 y_54.Client (wrap .i64 (i_38+(1:Int)))) else none else some (Sum.inr ())
def Zch (F:Nat) (l:(List Zac)):Option Bool :=
 Option.bind (
 (Zbq F l F (0:Int) (0:Int))
 ) fun o4=>Sum.elim (fun r=>some r) (fun _=>(
 some true
 )) o4
def ZaJ (F:Nat) (a:(List Zac)) (b:(List Zac)):Nat→Int→Int→(List Zac)→Option ((List Zac))
 | 0,_,_,_=>none
 | n_43+1,i_44,k_45,l_46=>Option.bind (bif decide (i_44<(a.length:Int)) then some true else some (decide (k_45<(List.length (List.map Zac.c b):Int)))) fun t17_47=>bif t17_47 then Option.bind (bif k_45==(b.length:Int) then some true else bif decide (i_44<(a.length:Int)) then bif decide ((0:Int)≤i_44) then a[i_44.toNat]?.bind fun y_51=>bif decide ((0:Int)≤k_45) then b[k_45.toNat]?.bind fun y_52=>some (decide (y_51.Client<y_52.Client)) else none else none else some false) fun t40_50=>bif t40_50 then bif decide ((0:Int)≤i_44) then a[i_44.toNat]?.bind fun y_53=>bif decide (((l_46.length)+1)≤LIM) then (ZaJ F a b n_43 (wrap .i64 (i_44+(1:Int))) k_45 (l_46++(y_53::[]))) else none else none else Option.bind (bif i_44==(a.length:Int) then some true else bif decide ((0:Int)≤k_45) then b[k_45.toNat]?.bind fun y_57=>bif decide ((0:Int)≤i_44) then a[i_44.toNat]?.bind fun y_58=>some (decide (y_57.Client<y_58.Client)) else none else none) fun t66_56=>bif t66_56 then bif decide ((0:Int)≤k_45) then b[k_45.toNat]?.bind fun y_59=>bif decide (((l_46.length)+1)≤LIM) then (ZaJ F a b n_43 i_44 (wrap .i64 (k_45+(1:Int))) (l_46++(y_59::[]))) else none else none else bif decide ((0:Int)≤k_45) then b[k_45.toNat]?.bind fun y_60=>bif decide ((0:Int)≤i_44) then a[i_44.toNat]?.bind fun y_61=>Option.bind (bif decide (y_61.Seq<y_60.Seq) then bif decide ((0:Int)≤k_45) then b[k_45.toNat]?.bind fun y_65=>bif decide (((l_46.length)+1)≤LIM) then some (l_46++(y_65::[])) else none else none else bif decide ((0:Int)≤i_44) then a[i_44.toNat]?.bind fun y_66=>bif decide (((l_46.length)+1)≤LIM) then some (l_46++(y_66::[])) else none else none) fun l_64=>(ZaJ F a b n_43 (wrap .i64 (i_44+(1:Int))) (wrap .i64 (k_45+(1:Int))) l_64) else none else none else some l_46
def ZcO (F:Nat) (a:(List Zac)) (b:(List Zac)):Option (List Zac) :=
 ((ZaJ F a b F (0:Int) (0:Int) [])).bind fun l_28=>some l_28
def Zbw (F:Nat) (a:(List Zac)) (b:(List Zac)):Option (Int×(List Zac)) :=
 Option.bind ((Zch F a).bind fun y_3=>bif !y_3 then some true else (Zch F b).bind fun y_4=>some (!y_4)) fun t13_2=>bif t13_2 then some ((4:Int),[]) else (ZcO F a b).bind fun y_5=>some ((0:Int),y_5)
def ZbJ (F:Nat) (a:(List Zaf)) (b:(List Zaf)):Nat→Int→Option (((Bool) ⊕ Unit))
 | 0,_=>none
 | n_12+1,i_13=>bif decide (i_13<(a.length:Int)) then bif decide ((0:Int)≤i_13) then a[i_13.toNat]?.bind fun y_16=>bif decide ((0:Int)≤i_13) then b[i_13.toNat]?.bind fun y_17=>bif !((y_16.Name==y_17.Name) && ((y_16.Expr==y_17.Expr) && ((y_16.Zone==y_17.Zone) && ((y_16.Token==y_17.Token) && ((y_16.Client==y_17.Client) && ((y_16.Seq==y_17.Seq) && ((y_16.Paused==y_17.Paused) && ((y_16.Mark==y_17.Mark) && true)))))))) then some (Sum.inl false) else (ZbJ F a b n_12 (wrap .i64 (i_13+(1:Int)))) else none else none else some (Sum.inr ())
def Zcs (F:Nat) (a:(List Zaf)) (b:(List Zaf)):Option Bool :=
 bif (a.length:Int) != (b.length:Int) then some false else Option.bind (
 (ZbJ F a b F (0:Int))
 ) fun o0=>Sum.elim (fun r=>some r) (fun _=>(
 some true
 )) o0
def ZcA (F:Nat) (a:Zam) (b:Zam):Option Bool :=
 bif a.Err==b.Err then bif a.Time==b.Time then (Zcs F a.Jobs b.Jobs).bind fun y_0=>some y_0 else some false else some false
def ZbB (F:Nat) (a:(List Zac)) (b:(List Zac)):Nat→Int→Option (((Bool) ⊕ Unit))
 | 0,_=>none
 | n_48+1,i_49=>bif decide (i_49<(a.length:Int)) then Option.bind (bif decide ((0:Int)≤i_49) then a[i_49.toNat]?.bind fun y_66=>bif decide ((0:Int)≤i_49) then b[i_49.toNat]?.bind fun y_67=>bif y_66.Client != y_67.Client then some true else bif decide ((0:Int)≤i_49) then a[i_49.toNat]?.bind fun y_68=>bif decide ((0:Int)≤i_49) then b[i_49.toNat]?.bind fun y_69=>bif y_68.Seq != y_69.Seq then some true else bif decide ((0:Int)≤i_49) then a[i_49.toNat]?.bind fun y_70=>bif decide ((0:Int)≤i_49) then b[i_49.toNat]?.bind fun y_71=>(ZcA F y_70.Result y_71.Result).bind fun y_72=>some (!y_72) else none else none else none else none else none else none) fun t54_65=>bif t54_65 then some (Sum.inl false) else (ZbB F a b n_48 (wrap .i64 (i_49+(1:Int)))) else some (Sum.inr ())
def ZcQ (F:Nat) (a:(List Zac)) (b:(List Zac)):Option Bool :=
 bif (a.length:Int) != (b.length:Int) then some false else Option.bind (
 (ZbB F a b F (0:Int))
 ) fun o4=>Sum.elim (fun r=>some r) (fun _=>(
 some true
 )) o4
def Zaz (F:Nat) (g:Int) (o_:Zae) (c:Int) (c_3:Int) (c_4:(List Zab)) (c_5:Int) (c_6:Int) (c_7:Int) (c_8:Int) (c_9:Int) (c_10:Int) (c_11:Int) (c_12:(List UInt8)) (l:(List (List Zaa))):Option (Zam×Zaa×(List (List Zaa))) :=
 Option.bind (bif decide (g<(1:Int)) then some true else some (decide ((List.length (List.map (cSl Zaa.c) l):Int)<g))) fun t21_0=>bif t21_0 then some ((Zam.mk (172:Int) (0:Int) []),(Zaa.mk (0:Int) (0:Int) (0:Int) ([]:List UInt8) ([]:List UInt8) [] []),l) else bif decide ((0:Int)≤(wrap .i64 (g - (1:Int)))) then l[(Int.toNat (wrap .i64 (g - (1:Int))))]?.bind fun y_1=>l[(Int.toNat (wrap .i64 (g - (1:Int))))]?.bind fun y_2=>(Ze3 F y_2 o_).bind fun y_3=>bif decide ((0:Int)≤(wrap .i64 (g - (1:Int)))) then l[(Int.toNat (wrap .i64 (g - (1:Int))))]?.bind fun y_4=>l[(Int.toNat (wrap .i64 (g - (1:Int))))]?.bind fun y_5=>some (y_3.1,y_3.2.1,(List.set l (Int.toNat (wrap .i64 (g - (1:Int)))) y_3.2.2)) else none else none
def Za3 (F:Nat) (have_:Zaa) (r_:Zam) (s:Zaa) (c:Int) (c_4:Int) (c_5:(List Zab)) (c_6:Int) (c_7:Int) (c_8:Int) (c_9:Int) (c_10:Int) (c_11:Int) (c_12:Int) (c_13:(List UInt8)) (l:(List (List Zaa))):Option (Zaa×Int×Int×(List Zab)×Int×Int×Int×Int×Int×Int×Int×(List UInt8)) :=
 (Zbj F (Zag.mk c c_4 c_5 (Zap.mk c_6 c_7 c_8 c_9 c_10 c_11 c_12 c_13)) have_ r_ s).bind fun y_0=>Option.bind (bif decide ((0:Int)<y_0.2) then (Za6 F (Zag.mk c c_4 c_5 (Zap.mk c_6 c_7 c_8 c_9 c_10 c_11 c_12 c_13)) y_0.2).bind fun y_13=>bif y_13.2==(0:Int) then some (y_13.1.Groups,y_13.1.Last,y_13.1.Spans,y_13.1.Plan.Kind,y_13.1.Plan.Phase,y_13.1.Plan.Shard,y_13.1.Plan.Other,y_13.1.Plan.Group,y_13.1.Plan.Past,y_13.1.Plan.Epoch,y_13.1.Plan.Key) else some (c,c_4,c_5,c_6,c_7,c_8,c_9,c_10,c_11,c_12,c_13) else some (c,c_4,c_5,c_6,c_7,c_8,c_9,c_10,c_11,c_12,c_13)) fun (c_2,c_3,c_4,c_5,c_6,c_7,c_8,c_9,c_10,c_11,c_12)=>Option.bind (bif decide (y_0.2<(0:Int)) then (Zb5 F (Zag.mk c_2 c_3 c_4 (Zap.mk c_5 c_6 c_7 c_8 c_9 c_10 c_11 c_12))).bind fun y_26=>bif y_26.2==(0:Int) then some (y_26.1.Groups,y_26.1.Last,y_26.1.Spans,y_26.1.Plan.Kind,y_26.1.Plan.Phase,y_26.1.Plan.Shard,y_26.1.Plan.Other,y_26.1.Plan.Group,y_26.1.Plan.Past,y_26.1.Plan.Epoch,y_26.1.Plan.Key) else some (c_2,c_3,c_4,c_5,c_6,c_7,c_8,c_9,c_10,c_11,c_12) else some (c_2,c_3,c_4,c_5,c_6,c_7,c_8,c_9,c_10,c_11,c_12)) fun (c_15,c_16,c_17,c_18,c_19,c_20,c_21,c_22,c_23,c_24,c_25)=>some (y_0.1,c_15,c_16,c_17,c_18,c_19,c_20,c_21,c_22,c_23,c_24,c_25)
def ZaI (F:Nat) (script:(List Zar)) (c:Int):Nat→Int→Int→Int→(List Zab)→Int→Int→Int→Int→Int→Int→Int→(List UInt8)→(List (List Zaa))→Int→Int→Int→(List UInt8)→(List UInt8)→(List Zaf)→(List Zac)→(List Zae)→(List Int)→Option ((Int×Int×(List Zab)×Int×Int×Int×Int×Int×Int×Int×(List UInt8)×(List (List Zaa))×Int×Int×Int×(List UInt8)×(List UInt8)×(List Zaf)×(List Zac)))
 | 0,_,_,_,_,_,_,_,_,_,_,_,_,_,_,_,_,_,_,_,_,_,_=>none
 | n_165+1,i_166,c_167,c_168,c_169,c_170,c_171,c_172,c_173,c_174,c_175,c_176,c_177,l_178,c_179,c_180,c_181,c_182,c_183,c_184,c_185,l_186,l_187=>Option.bind (bif decide (i_166<(script.length:Int)) then some (decide (i_166<(100:Int))) else some false) fun t33_188=>bif t33_188 then Option.bind (bif decide ((0:Int)≤i_166) then script[i_166.toNat]?.bind fun y_240=>bif y_240.Kind==(0:Int) then (ZbU F (Zag.mk c_167 c_168 c_169 (Zap.mk c_170 c_171 c_172 c_173 c_174 c_175 c_176 c_177)) y_240.Plan).bind fun y_241=>bif y_241.2==(0:Int) then some (y_241.1.Groups,y_241.1.Last,y_241.1.Spans,y_241.1.Plan.Kind,y_241.1.Plan.Phase,y_241.1.Plan.Shard,y_241.1.Plan.Other,y_241.1.Plan.Group,y_241.1.Plan.Past,y_241.1.Plan.Epoch,y_241.1.Plan.Key,l_178,(0:Int),(0:Int),(0:Int),([]:List UInt8),([]:List UInt8),[],[],l_186,l_187) else some (c_167,c_168,c_169,c_170,c_171,c_172,c_173,c_174,c_175,c_176,c_177,l_178,c_179,c_180,c_181,c_182,c_183,c_184,c_185,l_186,l_187) else bif y_240.Kind==(1:Int) then (Zb5 F (Zag.mk c_167 c_168 c_169 (Zap.mk c_170 c_171 c_172 c_173 c_174 c_175 c_176 c_177))).bind fun y_242=>Option.bind (bif y_242.2==(0:Int) then some (c_170==(1:Int)) else some false) fun t98_243=>bif t98_243 then some (y_242.1.Groups,y_242.1.Last,y_242.1.Spans,y_242.1.Plan.Kind,y_242.1.Plan.Phase,y_242.1.Plan.Shard,y_242.1.Plan.Other,y_242.1.Plan.Group,y_242.1.Plan.Past,y_242.1.Plan.Epoch,y_242.1.Plan.Key,l_178,(0:Int),(0:Int),(0:Int),([]:List UInt8),([]:List UInt8),[],[],l_186,l_187) else some (c_167,c_168,c_169,c_170,c_171,c_172,c_173,c_174,c_175,c_176,c_177,l_178,c_179,c_180,c_181,c_182,c_183,c_184,c_185,l_186,l_187) else Option.bind (bif y_240.Kind==(2:Int) then some (y_240.Kind==(2:Int)) else bif y_240.Kind==(3:Int) then some (y_240.Kind==(3:Int)) else some (y_240.Kind==(4:Int))) fun t104_244=>bif t104_244 then (ZaL F (Zag.mk c_167 c_168 c_169 (Zap.mk c_170 c_171 c_172 c_173 c_174 c_175 c_176 c_177)) (Zaa.mk c_179 c_180 c_181 c_182 c_183 c_184 c_185)).bind fun y_245=>bif !y_245.2.2 then some (c_167,c_168,c_169,c_170,c_171,c_172,c_173,c_174,c_175,c_176,c_177,l_178,c_179,c_180,c_181,c_182,c_183,c_184,c_185,l_186,l_187) else (Zaz F y_245.1 y_245.2.1 c_167 c_168 c_169 c_170 c_171 c_172 c_173 c_174 c_175 c_176 c_177 l_178).bind fun y_246=>Option.bind (bif y_240.Kind==(4:Int) then (Zaz F y_245.1 y_245.2.1 c_167 c_168 c_169 c_170 c_171 c_172 c_173 c_174 c_175 c_176 c_177 y_246.2.2).bind fun y_249=>some y_249.2.2 else some y_246.2.2) fun l_248=>bif decide (((l_186.length)+1)≤LIM) then bif decide (((l_187.length)+1)≤LIM) then bif y_240.Kind != (3:Int) then (Za3 F (Zaa.mk c_179 c_180 c_181 c_182 c_183 c_184 c_185) y_246.1 y_246.2.1 c_167 c_168 c_169 c_170 c_171 c_172 c_173 c_174 c_175 c_176 c_177 l_248).bind fun y_250=>some (y_250.2.1,y_250.2.2.1,y_250.2.2.2.1,y_250.2.2.2.2.1,y_250.2.2.2.2.2.1,y_250.2.2.2.2.2.2.1,y_250.2.2.2.2.2.2.2.1,y_250.2.2.2.2.2.2.2.2.1,y_250.2.2.2.2.2.2.2.2.2.1,y_250.2.2.2.2.2.2.2.2.2.2.1,y_250.2.2.2.2.2.2.2.2.2.2.2,l_248,y_250.1.Id,y_250.1.Epoch,y_250.1.State,y_250.1.From,y_250.1.To,y_250.1.Jobs,y_250.1.Seen,(l_186++(y_245.2.1::[])),(l_187++(y_245.1::[]))) else some (c_167,c_168,c_169,c_170,c_171,c_172,c_173,c_174,c_175,c_176,c_177,l_248,c_179,c_180,c_181,c_182,c_183,c_184,c_185,(l_186++(y_245.2.1::[])),(l_187++(y_245.1::[]))) else none else none else bif y_240.Kind==(5:Int) then some (c_167,c_168,c_169,c_170,c_171,c_172,c_173,c_174,c_175,c_176,c_177,l_178,(0:Int),(0:Int),(0:Int),([]:List UInt8),([]:List UInt8),[],[],l_186,l_187) else bif decide ((2:Int)≤(l_186.length:Int)) then bif decide ((0:Int)≤(wrap .i64 ((l_186.length:Int) - (2:Int)))) then l_187[(Int.toNat (wrap .i64 ((List.length (List.map Zae.c l_186):Int) - (2:Int))))]?.bind fun y_251=>l_187[(Int.toNat (wrap .i64 ((List.length (List.map Zae.c l_186):Int) - (2:Int))))]?.bind fun y_252=>bif decide ((0:Int)≤(wrap .i64 ((l_186.length:Int) - (2:Int)))) then l_186[(Int.toNat (wrap .i64 ((List.length (List.map Zae.c l_186):Int) - (2:Int))))]?.bind fun y_253=>l_186[(Int.toNat (wrap .i64 ((List.length (List.map Zae.c l_186):Int) - (2:Int))))]?.bind fun y_254=>(Zaz F y_252 y_254 c_167 c_168 c_169 c_170 c_171 c_172 c_173 c_174 c_175 c_176 c_177 l_178).bind fun y_255=>some (c_167,c_168,c_169,c_170,c_171,c_172,c_173,c_174,c_175,c_176,c_177,y_255.2.2,c_179,c_180,c_181,c_182,c_183,c_184,c_185,l_186,l_187) else none else none else some (c_167,c_168,c_169,c_170,c_171,c_172,c_173,c_174,c_175,c_176,c_177,l_178,c_179,c_180,c_181,c_182,c_183,c_184,c_185,l_186,l_187) else none) fun (c_219,c_220,c_221,c_222,c_223,c_224,c_225,c_226,c_227,c_228,c_229,l_230,c_231,c_232,c_233,c_234,c_235,c_236,c_237,l_238,l_239)=>(ZaI F script c n_165 (wrap .i64 (i_166+(1:Int))) c_219 c_220 c_221 c_222 c_223 c_224 c_225 c_226 c_227 c_228 c_229 l_230 c_231 c_232 c_233 c_234 c_235 c_236 c_237 l_238 l_239) else some (c_167,c_168,c_169,c_170,c_171,c_172,c_173,c_174,c_175,c_176,c_177,l_178,c_179,c_180,c_181,c_182,c_183,c_184,c_185)
def ZaU (F:Nat):Nat→Int→Int→Int→(List Zab)→Int→Int→Int→Int→Int→Int→Int→(List UInt8)→(List (List Zaa))→Int→Int→Int→(List UInt8)→(List UInt8)→(List Zaf)→(List Zac)→Option ((((Bool×Int×Int×(List Zab)×Int×Int×Int×Int×Int×Int×Int×(List UInt8)×(List (List Zaa)))) ⊕ (Int×Int×(List Zab)×Int×Int×Int×Int×Int×Int×Int×(List UInt8)×(List (List Zaa)))))
 | 0,_,_,_,_,_,_,_,_,_,_,_,_,_,_,_,_,_,_,_,_=>none
 | n_286+1,i_287,c_288,c_289,c_290,c_291,c_292,c_293,c_294,c_295,c_296,c_297,c_298,l_299,c_300,c_301,c_302,c_303,c_304,c_305,c_306=>bif decide (i_287<(20:Int)) then (ZaL F (Zag.mk c_288 c_289 c_290 (Zap.mk c_291 c_292 c_293 c_294 c_295 c_296 c_297 c_298)) (Zaa.mk c_300 c_301 c_302 c_303 c_304 c_305 c_306)).bind fun y_310=>bif !y_310.2.2 then some (Sum.inl (true,c_288,c_289,c_290,c_291,c_292,c_293,c_294,c_295,c_296,c_297,c_298,l_299)) else (Zaz F y_310.1 y_310.2.1 c_288 c_289 c_290 c_291 c_292 c_293 c_294 c_295 c_296 c_297 c_298 l_299).bind fun y_311=>(Za3 F (Zaa.mk c_300 c_301 c_302 c_303 c_304 c_305 c_306) y_311.1 y_311.2.1 c_288 c_289 c_290 c_291 c_292 c_293 c_294 c_295 c_296 c_297 c_298 y_311.2.2).bind fun y_312=>(ZaU F n_286 (wrap .i64 (i_287+(1:Int))) y_312.2.1 y_312.2.2.1 y_312.2.2.2.1 y_312.2.2.2.2.1 y_312.2.2.2.2.2.1 y_312.2.2.2.2.2.2.1 y_312.2.2.2.2.2.2.2.1 y_312.2.2.2.2.2.2.2.2.1 y_312.2.2.2.2.2.2.2.2.2.1 y_312.2.2.2.2.2.2.2.2.2.2.1 y_312.2.2.2.2.2.2.2.2.2.2.2 y_311.2.2 y_312.1.Id y_312.1.Epoch y_312.1.State y_312.1.From y_312.1.To y_312.1.Jobs y_312.1.Seen) else some (Sum.inr (c_288,c_289,c_290,c_291,c_292,c_293,c_294,c_295,c_296,c_297,c_298,l_299))
def Zbo (F:Nat) (script:(List Zar)) (c:Int) (c_2:Int) (c_3:(List Zab)) (c_4:Int) (c_5:Int) (c_6:Int) (c_7:Int) (c_8:Int) (c_9:Int) (c_10:Int) (c_11:(List UInt8)) (l:(List (List Zaa))):Option (Bool×Int×Int×(List Zab)×Int×Int×Int×Int×Int×Int×Int×(List UInt8)×(List (List Zaa))) :=
 ((ZaI F script c F (0:Int) c c_2 c_3 c_4 c_5 c_6 c_7 c_8 c_9 c_10 c_11 l (0:Int) (0:Int) (0:Int) ([]:List UInt8) ([]:List UInt8) [] [] [] [])).bind fun (c_94,c_95,c_96,c_97,c_98,c_99,c_100,c_101,c_102,c_103,c_104,l_105,c_106,c_107,c_108,c_109,c_110,c_111,c_112)=>Option.bind (
 (ZaU F F (0:Int) c_94 c_95 c_96 c_97 c_98 c_99 c_100 c_101 c_102 c_103 c_104 l_105 c_106 c_107 c_108 c_109 c_110 c_111 c_112)
 ) fun o17=>Sum.elim (fun r=>some r) (fun (c_268,c_269,c_270,c_271,c_272,c_273,c_274,c_275,c_276,c_277,c_278,l_279)=>(
 some (false,c_268,c_269,c_270,c_271,c_272,c_273,c_274,c_275,c_276,c_277,c_278,l_279)
 )) o17
def ZaP (F:Nat) (c_2:(List Zab)) (l:(List (List Zaa))):Nat→Int→Option (((Bool) ⊕ Unit))
 | 0,_=>none
 | n_48+1,i_49=>bif decide (i_49<(c_2.length:Int)) then bif decide ((0:Int)≤i_49) then c_2[i_49.toNat]?.bind fun y_58=>bif decide ((0:Int)≤(wrap .i64 (y_58.Group - (1:Int)))) then l[(Int.toNat (wrap .i64 (y_58.Group - (1:Int))))]?.bind fun y_59=>l[(Int.toNat (wrap .i64 (y_58.Group - (1:Int))))]?.bind fun y_60=>(Zb4 F y_60 y_58.Shard).bind fun y_61=>bif decide (y_61<(0:Int)) then some (Sum.inl false) else bif decide ((0:Int)≤(wrap .i64 (y_58.Group - (1:Int)))) then l[(Int.toNat (wrap .i64 (y_58.Group - (1:Int))))]?.bind fun y_62=>l[(Int.toNat (wrap .i64 (y_58.Group - (1:Int))))]?.bind fun y_63=>bif decide ((0:Int)≤y_61) then y_63[y_61.toNat]?.bind fun y_64=>Option.bind (bif y_64.State != (1:Int) then some true else bif y_64.Epoch != y_58.Epoch then some true else bif !(y_64.From==y_58.From) then some true else some (!(y_64.To==y_58.To))) fun t77_65=>bif t77_65 then some (Sum.inl false) else (ZaP F c_2 l n_48 (wrap .i64 (i_49+(1:Int)))) else none else none else none else none else some (Sum.inr ())
def ZaN (F:Nat) (l:(List (List Zaa))) (g_99:Int):Nat→Int→Int→Option (Int)
 | 0,_,_=>none
 | n_121+1,n_122,k_123=>bif decide ((0:Int)≤g_99) then l[g_99.toNat]?.bind fun y_124=>l[g_99.toNat]?.bind fun y_125=>bif decide (k_123<(y_125.length:Int)) then Option.bind (bif decide ((0:Int)≤g_99) then l[g_99.toNat]?.bind fun y_130=>l[g_99.toNat]?.bind fun y_131=>bif decide ((0:Int)≤k_123) then y_131[k_123.toNat]?.bind fun y_132=>bif y_132.State==(1:Int) then some (wrap .i64 (n_122+(1:Int))) else some n_122 else none else none) fun n_129=>(ZaN F l g_99 n_121 n_129 (wrap .i64 (k_123+(1:Int)))) else some n_122 else none
def ZaO (F:Nat) (l:(List (List Zaa))):Nat→Int→Int→Option (Int)
 | 0,_,_=>none
 | n_97+1,n_98,g_99=>bif decide (g_99<(l.length:Int)) then Option.bind (((ZaN F l g_99 F n_98 (0:Int))).bind fun n_114=>some n_114) fun n_107=>(ZaO F l n_97 n_107 (wrap .i64 (g_99+(1:Int)))) else some n_98
def Zbs (F:Nat) (c:Int) (c_1:Int) (c_2:(List Zab)) (c_3:Int) (c_4:Int) (c_5:Int) (c_6:Int) (c_7:Int) (c_8:Int) (c_9:Int) (c_10:(List UInt8)) (l:(List (List Zaa))):Option Bool :=
 Option.bind (
 (ZaP F c_2 l F (0:Int))
 ) fun o4=>Sum.elim (fun r=>some r) (fun _=>(
 (Option.bind (
 (ZaO F l F (0:Int) (0:Int))
 ) fun n_88=>(
 some (n_88==(List.length (List.map Zab.c c_2):Int))
 ))
 )) o4
def ZaH (F:Nat) (c_2:(List Zab)) (l:(List (List Zaa))):Nat→Int→(List Zaf)→(List Zac)→Option (((List Zaf)×(List Zac)))
 | 0,_,_,_=>none
 | n_197+1,i_198,l_199,l_200=>bif decide (i_198<(c_2.length:Int)) then bif decide ((0:Int)≤i_198) then c_2[i_198.toNat]?.bind fun y_234=>bif decide ((0:Int)≤(wrap .i64 (y_234.Group - (1:Int)))) then l[(Int.toNat (wrap .i64 (y_234.Group - (1:Int))))]?.bind fun y_235=>l[(Int.toNat (wrap .i64 (y_234.Group - (1:Int))))]?.bind fun y_236=>(Zb4 F y_236 y_234.Shard).bind fun y_237=>bif decide ((0:Int)≤y_237) then bif decide ((0:Int)≤(wrap .i64 (y_234.Group - (1:Int)))) then l[(Int.toNat (wrap .i64 (y_234.Group - (1:Int))))]?.bind fun y_259=>l[(Int.toNat (wrap .i64 (y_234.Group - (1:Int))))]?.bind fun y_260=>bif decide ((0:Int)≤y_237) then y_260[y_237.toNat]?.bind fun y_261=>bif decide (((l_199.length)+(y_261.Jobs.length))≤LIM) then bif decide ((0:Int)≤(wrap .i64 (y_234.Group - (1:Int)))) then l[(Int.toNat (wrap .i64 (y_234.Group - (1:Int))))]?.bind fun y_262=>l[(Int.toNat (wrap .i64 (y_234.Group - (1:Int))))]?.bind fun y_263=>bif decide ((0:Int)≤y_237) then y_263[y_237.toNat]?.bind fun y_264=>(Zbw F l_200 y_264.Seen).bind fun y_265=>(ZaH F c_2 l n_197 (wrap .i64 (i_198+(1:Int))) (l_199++y_261.Jobs) y_265.2) else none else none else none else none else none else (ZaH F c_2 l n_197 (wrap .i64 (i_198+(1:Int))) l_199 l_200) else none else none else some (l_199,l_200)
def Zbx (F:Nat) (c:Int) (c_1:Int) (c_2:(List Zab)) (c_3:Int) (c_4:Int) (c_5:Int) (c_6:Int) (c_7:Int) (c_8:Int) (c_9:Int) (c_10:(List UInt8)) (l:(List (List Zaa))):Option ((List Zaf)×(List Zac)) :=
 ((ZaH F c_2 l F (0:Int) [] [])).bind fun (l_130,l_131)=>some (l_130,l_131)
def ZbZ (F:Nat) (groups:Int) (jobs:(List Zaf)) (seen:(List Zac)) (script:(List Zar)):Option Bool :=
 (Zdz F).bind fun y_0=>bif !y_0 then some false else (Zci F groups jobs seen).bind fun y_1=>Option.bind (bif !y_1.2.2.2.2.2.2.2.2.2.2.2.1 then some true else some (decide ((16:Int)<(List.length (List.map Zaf.c jobs):Int)))) fun t28_2=>bif t28_2 then some true else Option.bind ((Zbo F script y_1.1 y_1.2.1 y_1.2.2.1 y_1.2.2.2.1 y_1.2.2.2.2.1 y_1.2.2.2.2.2.1 y_1.2.2.2.2.2.2.1 y_1.2.2.2.2.2.2.2.1 y_1.2.2.2.2.2.2.2.2.1 y_1.2.2.2.2.2.2.2.2.2.1 y_1.2.2.2.2.2.2.2.2.2.2.1 y_1.2.2.2.2.2.2.2.2.2.2.2.2).bind fun y_18=>bif !y_18.1 then some (true,y_18.2.1,y_18.2.2.1,y_18.2.2.2.1,y_18.2.2.2.2.1,y_18.2.2.2.2.2.1,y_18.2.2.2.2.2.2.1,y_18.2.2.2.2.2.2.2.1,y_18.2.2.2.2.2.2.2.2.1,y_18.2.2.2.2.2.2.2.2.2.1,y_18.2.2.2.2.2.2.2.2.2.2.1,y_18.2.2.2.2.2.2.2.2.2.2.2.1,y_18.2.2.2.2.2.2.2.2.2.2.2.2) else (Zbs F y_18.2.1 y_18.2.2.1 y_18.2.2.2.1 y_18.2.2.2.2.1 y_18.2.2.2.2.2.1 y_18.2.2.2.2.2.2.1 y_18.2.2.2.2.2.2.2.1 y_18.2.2.2.2.2.2.2.2.1 y_18.2.2.2.2.2.2.2.2.2.1 y_18.2.2.2.2.2.2.2.2.2.2.1 y_18.2.2.2.2.2.2.2.2.2.2.2.1 y_18.2.2.2.2.2.2.2.2.2.2.2.2).bind fun y_19=>some ((!y_19),y_18.2.1,y_18.2.2.1,y_18.2.2.2.1,y_18.2.2.2.2.1,y_18.2.2.2.2.2.1,y_18.2.2.2.2.2.2.1,y_18.2.2.2.2.2.2.2.1,y_18.2.2.2.2.2.2.2.2.1,y_18.2.2.2.2.2.2.2.2.2.1,y_18.2.2.2.2.2.2.2.2.2.2.1,y_18.2.2.2.2.2.2.2.2.2.2.2.1,y_18.2.2.2.2.2.2.2.2.2.2.2.2)) fun (t35_5,c_6,c_7,c_8,c_9,c_10,c_11,c_12,c_13,c_14,c_15,c_16,l_17)=>bif t35_5 then some false else (Zbx F c_6 c_7 c_8 c_9 c_10 c_11 c_12 c_13 c_14 c_15 c_16 l_17).bind fun y_20=>(Zcs F y_20.1 jobs).bind fun y_21=>bif y_21 then (ZcQ F y_20.2 seen).bind fun y_22=>some y_22 else some false
end Go.T
