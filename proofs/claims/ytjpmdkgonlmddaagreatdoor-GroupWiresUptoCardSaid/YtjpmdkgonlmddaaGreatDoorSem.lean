/-
 SemGw: the typed functions that the program's functions compute. Printed by a program.
-/
import Derived.Test.YtjpmdkgonlmddaaGreatDoorTy
set_option linter.unusedVariables false
set_option maxRecDepth 200000
namespace Go.T
open Go Go.Ab Go.IntKind
def Zdf (F:Nat) (conf:(List Int)):Nat→Int→Option (((Bool) ⊕ Unit))
 | 0,_=>none
 | n_15+1,t22_16=>bif decide (t22_16<(List.length (@cut (@List AV) (some (Operand.const (Value.int IntKind.i64 (1:Int)))) none (List.map (cInt .i64) conf) (Int.toNat (1:Int)) (conf.length)):Int)) then bif decide ((0:Int)≤t22_16) then (((List.drop (Int.toNat (1:Int)) conf))[t22_16.toNat]?).bind fun y_19=>bif decide ((0:Int)≤t22_16) then conf[t22_16.toNat]?.bind fun y_20=>bif decide (y_19≤y_20) then some (Sum.inl false) else (Zdf F conf n_15 (wrap .i64 (t22_16+(1:Int)))) else none else none else some (Sum.inr ())
def Zc5 (F:Nat) (conf:(List Int)):Option Bool :=
 Option.bind (bif decide ((conf.length:Int)<(1:Int)) then some true else bif decide ((7:Int)<(conf.length:Int)) then some true else conf[(Int.toNat (0:Int))]?.bind fun y_2=>some (decide (y_2<(1:Int)))) fun t18_1=>bif t18_1 then some false else bif decide ((Int.toNat (1:Int))≤(conf.length)) then bif decide ((conf.length)≤(conf.length)) then Option.bind (
 (Zdf F conf F (0:Int))
 ) fun o1=>Sum.elim (fun r=>some r) (fun _=>(
 some true
 )) o1 else none else none
def Zaw (F:Nat) (s:List Int):Option (List Int) :=
 bif decide (s.length≤LIM) then some s else none
def Ziw (F:Nat):Option (Int×(List Zag)×(List (Zae×Int))) :=
 some ((0:Int),[],[])
def ZjJ (F:Nat):Option Bool :=
 some false
def ZiE (F:Nat):Option (Int×(List ((List UInt8)×(List Int)))) :=
 some ((0:Int),[])
def Zbd (F:Nat) (s:(List Int)) (v:Int):Nat→Int→Option (((Int) ⊕ Unit))
 | 0,_=>none
 | n_6+1,t8_7=>bif decide (t8_7<(s.length:Int)) then bif decide ((0:Int)≤t8_7) then s[t8_7.toNat]?.bind fun y_9=>bif v==y_9 then some (Sum.inl t8_7) else (Zbd F s v n_6 (wrap .i64 (t8_7+(1:Int)))) else none else some (Sum.inr ())
def Zbs (F:Nat) (s:(List Int)) (v:Int):Option Int :=
 Option.bind (
 (Zbd F s v F (0:Int))
 ) fun o0=>Sum.elim (fun r=>some r) (fun _=>(
 some (@Neg.neg Int Int.instNegInt (1:Int))
 )) o0
def Zbf (F:Nat) (s:(List Int)) (v:Int):Option Bool :=
 (Zbs F s v).bind fun y_0=>some (decide ((0:Int)≤y_0))
def ZdP (F:Nat) (n:Int) (b:Zaf):Option Bool :=
 bif n==(0:Int) then some true else (Zbf F b.Conf n).bind fun y_0=>some y_0
def ZdC (F:Nat) (t:Zai):Option Int :=
 some (wrap .i64 (t.Base+(List.length (List.map Zaa.c t.Entries):Int)))
def Zdb (F:Nat) (entries:(List Zaa)):Nat→Int→Int→Option (((Bool) ⊕ Unit))
 | 0,_,_=>none
 | n_12+1,term_13,t9_14=>bif decide (t9_14<(entries.length:Int)) then bif decide ((0:Int)≤t9_14) then entries[t9_14.toNat]?.bind fun y_17=>Option.bind (bif decide (y_17.Term<(if ((1:Int) > term_13) then (1:Int) else term_13)) then some true else bif decide ((1099511627776:Int)<y_17.Term) then some true else some (decide ((4096:Int)<(y_17.Data.length:Int)))) fun t28_18=>bif t28_18 then some (Sum.inl false) else (Zdb F entries n_12 y_17.Term (wrap .i64 (t9_14+(1:Int)))) else none else some (Sum.inr ())
def Zex (F:Nat) (term:Int) (entries:(List Zaa)):Option Bool :=
 Option.bind (
 (Zdb F entries F term (0:Int))
 ) fun o4=>Sum.elim (fun r=>some r) (fun _=>(
 some true
 )) o4
def ZcW (F:Nat) (t:Zai):Option Bool :=
 bif decide ((0:Int)≤t.Base) then bif decide (t.Base≤(1099511627776:Int)) then bif decide ((0:Int)≤t.BaseTerm) then bif decide (t.BaseTerm≤(1099511627776:Int)) then bif decide ((0:Int)<t.Base) then bif decide ((t.Entries.length:Int)≤(4096:Int)) then (ZdC F t).bind fun y_0=>bif decide (y_0≤(1099511627776:Int)) then (Zex F t.BaseTerm t.Entries).bind fun y_1=>some y_1 else some false else some false else bif t.BaseTerm==(0:Int) then bif decide ((t.Entries.length:Int)≤(4096:Int)) then (ZdC F t).bind fun y_2=>bif decide (y_2≤(1099511627776:Int)) then (Zex F t.BaseTerm t.Entries).bind fun y_3=>some y_3 else some false else some false else some false else some false else some false else some false else some false
def ZfM (F:Nat) (t:Zai) (n:Int):Option Int :=
 bif n==t.Base then some t.BaseTerm else bif decide ((0:Int)≤(wrap .i64 ((wrap .i64 (n - t.Base)) - (1:Int)))) then ((t.Entries)[(Int.toNat (wrap .i64 ((wrap .i64 (n - t.Base)) - (1:Int))))]?).bind fun y_0=>some y_0.Term else none
def Zea (F:Nat) (t:Zai):Option (Int×Int) :=
 (ZcW F t).bind fun y_0=>bif !y_0 then some ((0:Int),(0:Int)) else (ZdC F t).bind fun y_1=>(ZdC F t).bind fun y_2=>(ZfM F t y_2).bind fun y_3=>some (y_1,y_3)
def Zd5 (F:Nat) (r_:Zaf) (y_1:(Int×Int)):Nat→Int→Option (((Bool) ⊕ Unit))
 | 0,_=>none
 | n_26+1,t46_27=>bif decide (t46_27<(r_.Match.length:Int)) then bif decide ((0:Int)≤t46_27) then ((r_.Match)[t46_27.toNat]?).bind fun y_32=>Option.bind (bif decide (y_32<(0:Int)) then some true else bif decide (y_1.1<y_32) then some true else bif decide ((0:Int)≤t46_27) then ((r_.Next)[t46_27.toNat]?).bind fun y_36=>bif decide (y_36≤y_32) then some true else bif decide ((0:Int)≤t46_27) then ((r_.Next)[t46_27.toNat]?).bind fun y_37=>some (decide ((wrap .i64 (y_1.1+(1:Int)))<y_37)) else none else none) fun t76_35=>bif t76_35 then some (Sum.inl false) else (Zd5 F r_ y_1 n_26 (wrap .i64 (t46_27+(1:Int)))) else none else some (Sum.inr ())
def Zgy (F:Nat) (r_:Zaf):Option Bool :=
 Option.bind (bif r_.Vote != r_.Id then some true else bif r_.Leader != r_.Id then some true else bif (r_.Next.length:Int) != (r_.Conf.length:Int) then some true else some ((List.length (List.map (cInt .i64) r_.Match):Int) != (List.length (List.map (cInt .i64) r_.Conf):Int))) fun t36_0=>bif t36_0 then some false else (Zea F r_.Trail).bind fun y_1=>Option.bind (
 (Zd5 F r_ y_1 F (0:Int))
 ) fun o5=>Sum.elim (fun r=>some r) (fun _=>(
 some true
 )) o5
def Zeb (F:Nat) (r_:Zaf):Option Bool :=
 Option.bind ((Zc5 F r_.Conf).bind fun y_6=>bif !y_6 then some true else bif r_.Id==(0:Int) then some true else (ZdP F r_.Id r_).bind fun y_7=>bif !y_7 then some true else bif decide (r_.Term<(0:Int)) then some true else bif decide ((1099511627776:Int)<r_.Term) then some true else (ZdP F r_.Vote r_).bind fun y_8=>bif !y_8 then some true else (ZdP F r_.Leader r_).bind fun y_9=>bif !y_9 then some true else (ZcW F r_.Trail).bind fun y_10=>some (!y_10)) fun t52_5=>bif t52_5 then some false else (Zea F r_.Trail).bind fun y_11=>Option.bind (bif decide (r_.Term<y_11.2) then some true else bif decide ((60000:Int)<(r_.Snap.length:Int)) then some true else bif decide (r_.Commit<r_.Trail.Base) then some true else bif decide (y_11.1<r_.Commit) then some true else bif decide (r_.Left<(0:Int)) then some true else bif decide ((100:Int)<r_.Left) then some true else bif decide (r_.Wait<(10:Int)) then some true else some (decide ((20:Int)≤r_.Wait))) fun t102_12=>bif t102_12 then some false else Option.bind (bif r_.Role != (1:Int) then bif decide ((0:Int)<(r_.Votes.length:Int)) then some true else bif r_.Role != (2:Int) then some (decide ((0:Int)<(wrap .i64 ((List.length (List.map (cInt .i64) r_.Next):Int)+(List.length (List.map (cInt .i64) r_.Match):Int))))) else some false else bif r_.Role != (2:Int) then some (decide ((0:Int)<(wrap .i64 ((List.length (List.map (cInt .i64) r_.Next):Int)+(List.length (List.map (cInt .i64) r_.Match):Int))))) else none) fun t126_13=>bif t126_13 then some false else bif r_.Role==(0:Int) then some true else bif r_.Role==(1:Int) then none else bif r_.Role==(2:Int) then (Zgy F r_).bind fun y_15=>some y_15 else some false
def Ziq (F:Nat) (id:Int) (conf:(List Int)):Option (Zaf×Int) :=
 (Zaw F conf).bind fun y_0=>(Zeb F (Zaf.mk id y_0 (0:Int) (0:Int) (0:Int) (0:Int) (Zai.mk (0:Int) (0:Int) []) ([]:List UInt8) (0:Int) (10:Int) (10:Int) [] [] [])).bind fun y_1=>bif !y_1 then some ((Zaf.mk (0:Int) [] (0:Int) (0:Int) (0:Int) (0:Int) (Zai.mk (0:Int) (0:Int) []) ([]:List UInt8) (0:Int) (0:Int) (0:Int) [] [] []),(1:Int)) else some ((Zaf.mk id y_0 (0:Int) (0:Int) (0:Int) (0:Int) (Zai.mk (0:Int) (0:Int) []) ([]:List UInt8) (0:Int) (10:Int) (10:Int) [] [] []),(0:Int))
def Zdu (F:Nat) (c:Int) (fs:(List ((List UInt8)×(List Int)))) (l:(List Zab)):Option (List (List UInt8)) :=
 bif decide (fs.length≤LIM∧(List.all fs fun e=>decide (e.1.length≤LIM))=true) then some (sortS (List.map Prod.fst fs)) else none
def ZfK (F:Nat) (name:(List UInt8)):Option Int :=
 bif decide (name.length≤LIM) then some (Zis name) else none
def Zej (F:Nat) (x:Int):Option Int :=
 Option.bind (bif decide ((4294967296:Int)≤x) then some ((@Int.fdiv x ((2:Int) ^ (min (Int.toNat (32:Int)) 64))),(32:Int)) else some (x,(0:Int))) fun (x_0,n_1)=>Option.bind (bif decide ((65536:Int)≤x_0) then some ((@Int.fdiv x_0 ((2:Int) ^ (min (Int.toNat (16:Int)) 64))),(wrap .i64 (n_1+(16:Int)))) else some (x_0,n_1)) fun (x_2,n_3)=>Option.bind (bif decide ((256:Int)≤x_2) then some ((@Int.fdiv x_2 ((2:Int) ^ (min (Int.toNat (8:Int)) 64))),(wrap .i64 (n_3+(8:Int)))) else some (x_2,n_3)) fun (x_4,n_5)=>bif decide ((0:Int)≤(wrap .u8 x_4)) then ((([0,1,2,2,3,3,3,3,4,4,4,4,4,4,4,4,5,5,5,5,5,5,5,5,5,5,5,5,5,5,5,5,6,6,6,6,6,6,6,6,6,6,6,6,6,6,6,6,6,6,6,6,6,6,6,6,6,6,6,6,6,6,6,6,7,7,7,7,7,7,7,7,7,7,7,7,7,7,7,7,7,7,7,7,7,7,7,7,7,7,7,7,7,7,7,7,7,7,7,7,7,7,7,7,7,7,7,7,7,7,7,7,7,7,7,7,7,7,7,7,7,7,7,7,7,7,7,7,8,8,8,8,8,8,8,8,8,8,8,8,8,8,8,8,8,8,8,8,8,8,8,8,8,8,8,8,8,8,8,8,8,8,8,8,8,8,8,8,8,8,8,8,8,8,8,8,8,8,8,8,8,8,8,8,8,8,8,8,8,8,8,8,8,8,8,8,8,8,8,8,8,8,8,8,8,8,8,8,8,8,8,8,8,8,8,8,8,8,8,8,8,8,8,8,8,8,8,8,8,8,8,8,8,8,8,8,8,8,8,8,8,8,8,8,8,8,8,8,8,8,8,8,8,8,8,8]:List UInt8))[(Int.toNat (wrap .u8 x_4))]?).bind fun y_6=>some (wrap .i64 (n_5+(wrap .i64 (UInt8.toNat y_6:Int)))) else none
def ZeZ (F:Nat) (x:Int):Option Int :=
 (Zej F x).bind fun y_0=>some y_0
def ZbQ (F:Nat) (l:(List Int)):Option (List Int) :=
 bif decide (l.length≤LIM) then some (sortI l) else none
def ZbH (F:Nat) (s:(List Int)):Option (List Int) :=
 some s
def strconv_Itoa (F:Nat) (i:Int):Option (List UInt8) :=
 bif decide (-9223372036854775808≤i∧i≤9223372036854775807) then some (Lib.itoa i) else none
def Zbx (F:Nat):Nat→Int→(List Int)→Option ((Int×(List Int)))
 | 0,_,_=>none
 | n_2+1,n_3,l_4=>bif decide ((128:Int)≤n_3) then bif decide (((l_4.length)+1)≤LIM) then (Zbx F n_2 (@Int.fdiv n_3 ((2:Int) ^ (min (Int.toNat (7:Int)) 64))) (l_4++((@ibits BinOp.or IntKind.u8 (wrap .u8 n_3) (128:Int))::[]))) else none else some (n_3,l_4)
def Zcu (F:Nat) (n:Int) (l:(List Int)):Option (List Int) :=
 ((Zbx F F n l)).bind fun (n_0,l_1)=>bif decide (((l_1.length)+1)≤LIM) then some (l_1++((wrap .u8 n_0)::[])) else none
def ZbT (F:Nat) (list:(List Zac)):Nat→Int→(List Int)→Option ((((Int×(List Int))) ⊕ (List Int)))
 | 0,_,_=>none
 | n_22+1,t9_23,l_24=>bif decide (t9_23<(list.length:Int)) then Option.bind (
 (bif decide ((0:Int)≤t9_23) then (
 (Option.bind ((list)[t9_23.toNat]?) fun y_32=>(
 (Option.bind (
 (bif (y_32.Kind==(1:Int)) then (
 some (decide ((0:Int)≤y_32.N))
 ) else (
 some false
 ))
 ) fun t13_33=>(
 (bif t13_33 then (
 (Option.bind (Zcu F (wrap .u64 y_32.N) l_24) fun y_34=>(
 some (Sum.inr y_34)
 ))
 ) else (
 (bif (y_32.Kind==(2:Int)) then (
 (Option.bind (Zcu F (@ibits BinOp.xor IntKind.u64 (wrap .u64 ((wrap .u64 y_32.N) * ((2:Int) ^ (min (Int.toNat (1:Int)) 64)))) (wrap .u64 (@Int.fdiv y_32.N ((2:Int) ^ (min (Int.toNat (63:Int)) 64))))) l_24) fun y_35=>(
 some (Sum.inr y_35)
 ))
 ) else (
 (Option.bind (
 (bif (y_32.Kind==(3:Int)) then (
 some (decide ((y_32.S.length:Int)≤(65536:Int)))
 ) else (
 some false
 ))
 ) fun t42_36=>(
 (bif t42_36 then (
 (Option.bind (Zcu F (wrap .u64 (y_32.S.length:Int)) l_24) fun y_37=>(
 (bif decide (((y_37.length)+(y_32.S.length))≤LIM) then (
 some (Sum.inr (y_37++(List.map (fun (b_13:UInt8)=>(((UInt8.toNat b_13):Nat):Int)) y_32.S)))
 ) else none)
 ))
 ) else (
 some (Sum.inl ((1:Int),[]))
 ))
 ))
 ))
 ))
 ))
 ))
 ) else none)
 ) fun o12=>Sum.elim (fun r=>some (Sum.inl r)) (fun l_31=>(
 (ZbT F list n_22 (wrap .i64 (t9_23+(1:Int))) l_31)
 )) o12 else some (Sum.inr l_24)
def ZcX (F:Nat) (list:(List Zac)):Option (Int×(List Int)) :=
 Option.bind (
 (ZbT F list F (0:Int) [])
 ) fun o6=>Sum.elim (fun r=>some r) (fun l_14=>(
 some ((0:Int),l_14)
 )) o6
def Zid (F:Nat):Option Unit :=
 some ()
def Zd2 (F:Nat) (l:(List Int)):Option Int :=
 bif decide (l.length≤LIM) then some (crcS l) else none
def ZgM (F:Nat) (b:(List Int)):Option (Int×(List Int)) :=
 bif decide ((65536:Int)<(b.length:Int)) then some ((1:Int),[]) else (Zcu F (wrap .u64 (List.length (List.map (cInt .u8) b):Int)) []).bind fun y_0=>bif decide (((y_0.length)+(b.length))≤LIM) then (Zid F).bind fun y_1=>(Zd2 F (y_0++b)).bind fun y_2=>bif decide (((List.length (y_0++b))+4)≤LIM) then some ((0:Int),((y_0++b)++((wrap .u8 y_2)::((wrap .u8 (@Int.fdiv y_2 ((2:Int) ^ (min (Int.toNat (8:Int)) 32))))::((wrap .u8 (@Int.fdiv y_2 ((2:Int) ^ (min (Int.toNat (16:Int)) 32))))::((wrap .u8 (@Int.fdiv y_2 ((2:Int) ^ (min (Int.toNat (24:Int)) 32))))::[])))))) else none else none
def ZfL (F:Nat) (rec:(List Int)):Option ((List Int)×Int) :=
 (ZgM F rec).bind fun y_0=>some (y_0.2,y_0.1)
def Zd4 (F:Nat) (recs:(List (List Int))) (y_0:(Int×(List Int))):Nat→Int→(List (List Int))→Option ((((Int×(List (List Int)))) ⊕ (List (List Int))))
 | 0,_,_=>none
 | n_16+1,t24_17,l_18=>bif decide (t24_17<((1+(recs.length):Nat):Int)) then bif decide ((0:Int)≤t24_17) then ((((y_0.2::[])++recs))[t24_17.toNat]?).bind fun y_22=>((((y_0.2::[])++recs))[t24_17.toNat]?).bind fun y_23=>(ZfL F y_23).bind fun y_24=>bif y_24.2 != (0:Int) then some (Sum.inl (y_24.2,[])) else bif decide (((l_18.length)+1)≤LIM) then (Zd4 F recs y_0 n_16 (wrap .i64 (t24_17+(1:Int))) (l_18++(y_24.1::[]))) else none else none else some (Sum.inr l_18)
def Zgt (F:Nat) (recs:(List (List Int))):Option (Int×(List (List Int))) :=
 (ZcX F ((Zac.mk (1:Int) (List.length (List.map (cSl (cInt .u8)) recs):Int) ([]:List UInt8))::[])).bind fun y_0=>bif decide ((1+(recs.length))≤LIM) then Option.bind (
 (Zd4 F recs y_0 F (0:Int) [])
 ) fun o0=>Sum.elim (fun r=>some r) (fun l_9=>(
 some ((0:Int),l_9)
 )) o0 else none
def Zd7 (F:Nat) (name:(List UInt8)):Nat→Int→Option (((Bool) ⊕ Unit))
 | 0,_=>none
 | n_18+1,t8_19=>bif decide (t8_19<(name.length:Int)) then bif decide ((0:Int)≤t8_19) then (((List.map (fun (b_13:UInt8)=>(((UInt8.toNat b_13):Nat):Int)) name))[t8_19.toNat]?).bind fun y_23=>(((List.map (fun (b_13:UInt8)=>(((UInt8.toNat b_13):Nat):Int)) name))[t8_19.toNat]?).bind fun y_24=>Option.bind (bif decide (y_24<(97:Int)) then bif decide (y_24<(48:Int)) then bif y_24 != (45:Int) then some (y_24 != (46:Int)) else some false else bif decide ((57:Int)<y_24) then bif y_24 != (45:Int) then some (y_24 != (46:Int)) else some false else some false else bif decide ((122:Int)<y_24) then bif decide (y_24<(48:Int)) then bif y_24 != (45:Int) then some (y_24 != (46:Int)) else some false else bif decide ((57:Int)<y_24) then bif y_24 != (45:Int) then some (y_24 != (46:Int)) else some false else some false else some false) fun t33_25=>bif t33_25 then some (Sum.inl false) else (Zd7 F name n_18 (wrap .i64 (t8_19+(1:Int)))) else none else some (Sum.inr ())
def ZgL (F:Nat) (name:(List UInt8)):Option Bool :=
 bif decide ((name.length)≤LIM) then Option.bind (
 (Zd7 F name F (0:Int))
 ) fun o4=>Sum.elim (fun r=>some r) (fun _=>(
 (bif (decide ((1:Int)≤(name.length:Int))) then (
 some (decide ((name.length:Int)≤(16:Int)))
 ) else (
 some false
 ))
 )) o4 else none
def Zcf (F:Nat) (name:(List UInt8)) (b:(List Int)) (c:Int) (fs:(List ((List UInt8)×(List Int)))) (l:(List Zab)):Option (Int×Int×(List ((List UInt8)×(List Int)))×(List Zab)) :=
 (ZgL F name).bind fun y_1=>bif !y_1 then some ((1:Int),c,fs,l) else bif Option.isSome (mget name fs) then bif decide ((1048576:Int)<(wrap .i64 (c+(b.length:Int)))) then some ((3:Int),c,fs,l) else bif decide (((List.length (Option.getD (mget name fs) []))+(b.length))≤LIM) then bif decide (fs.length+1≤LIM) then bif decide (((l.length)+1)≤LIM) then some ((0:Int),(wrap .i64 (c+(List.length (List.map (cInt .u8) b):Int))),(mput name ((Option.getD (mget name fs) [])++b) fs),(l++((Zab.mk name (List.length (List.map (cInt .u8) b):Int))::[]))) else none else none else none else Option.bind (bif decide ((64:Int)≤(List.length (@encF (@List UInt8) Int (fun (k_13:(@List UInt8))=>(AV.str k_13)) (cInt .u8) fs):Int)) then some true else some (decide ((1048576:Int)<(wrap .i64 (c+(List.length (List.map (cInt .u8) b):Int)))))) fun t44_2=>bif t44_2 then some ((3:Int),c,fs,l) else bif decide ((b.length)≤LIM) then bif decide (fs.length+1≤LIM) then bif decide (((l.length)+1)≤LIM) then some ((0:Int),(wrap .i64 (c+(List.length (List.map (cInt .u8) b):Int))),(mput name b fs),(l++((Zab.mk name (List.length (List.map (cInt .u8) b):Int))::[]))) else none else none else none
def Zdt (F:Nat) (name:(List UInt8)) (c:Int) (fs:(List ((List UInt8)×(List Int)))) (l:(List Zab)):Option Int :=
 bif !(Option.isSome (mget name fs)) then some (80:Int) else some (0:Int)
def Zcx (F:Nat) (w:Zab) (a1:(List UInt8)):Option Bool :=
 some (w.name==a1)
def Zao (F:Nat) (s:(List Zab)) (f0:(List UInt8)):Nat→Int→Option (((Int) ⊕ Unit))
 | 0,_=>none
 | n_12+1,t8_13=>bif decide (t8_13<(s.length:Int)) then bif decide ((0:Int)≤t8_13) then s[t8_13.toNat]?.bind fun y_16=>(Zcx F y_16 f0).bind fun y_17=>bif y_17 then some (Sum.inl t8_13) else (Zao F s f0 n_12 (wrap .i64 (t8_13+(1:Int)))) else none else some (Sum.inr ())
def ZaI (F:Nat) (s:(List Zab)) (f0:(List UInt8)):Option Int :=
 Option.bind (
 (Zao F s f0 F (0:Int))
 ) fun o0=>Sum.elim (fun r=>some r) (fun _=>(
 some (@Neg.neg Int Int.instNegInt (1:Int))
 )) o0
def Zb1 (F:Nat) (w:Zab) (b:(List UInt8)):Option Bool :=
 some (w.name==b)
def Zam (F:Nat) (b:(List UInt8)):Nat→Int→Int→(List Zab)→Option ((Int×(List Zab)))
 | 0,_,_,_=>none
 | n_24+1,i_25,j_26,l_27=>bif decide (j_26<(l_27.length:Int)) then Option.bind (bif decide ((0:Int)≤j_26) then l_27[j_26.toNat]?.bind fun y_35=>l_27[j_26.toNat]?.bind fun y_36=>(Zb1 F y_36 b).bind fun y_37=>bif !y_37 then bif decide ((0:Int)≤i_25) then l_27[i_25.toNat]?.bind fun y_38=>l_27[i_25.toNat]?.bind fun y_39=>some ((wrap .i64 (i_25+(1:Int))),(List.set l_27 i_25.toNat y_36)) else none else some (i_25,l_27) else none) fun (i_33,l_34)=>(Zam F b n_24 i_33 (wrap .i64 (j_26+(1:Int))) l_34) else some (i_25,l_27)
def ZaA (F:Nat) (l:(List Zab)) (b:(List UInt8)):Option (List Zab) :=
 (ZaI F l b).bind fun y_0=>bif y_0==(@Neg.neg Int Int.instNegInt (1:Int)) then some l else ((Zam F b F y_0 (wrap .i64 (y_0+(1:Int))) l)).bind fun (i_15,l_16)=>bif decide ((0:Int)≤i_15) then bif decide (i_15.toNat≤(l_16.length)) then bif decide ((l_16.length)≤(l_16.length)) then bif decide ((i_15.toNat+((l_16.length) - i_15.toNat))≤(l_16.length)) then bif decide ((0:Int)≤i_15) then bif decide (i_15.toNat≤((min i_15.toNat (l_16.length))+(((List.length (List.map Zab.c l_16)) - i_15.toNat)+((l_16.length) - (i_15.toNat+((List.length (List.map Zab.c l_16)) - i_15.toNat)))))) then some (List.take i_15.toNat ((List.take i_15.toNat l_16)++((List.replicate ((List.length (List.map Zab.c l_16)) - i_15.toNat) (Zab.mk ([]:List UInt8) (0:Int)))++(List.drop (i_15.toNat+((List.length (List.map Zab.c l_16)) - i_15.toNat)) l_16)))) else none else none else none else none else none else none
def Zc2 (F:Nat) (name:(List UInt8)) (c:Int) (fs:(List ((List UInt8)×(List Int)))) (l:(List Zab)):Option (Int×(List Zab)) :=
 (ZaA F l name).bind fun y_0=>some (c,y_0)
def ZcF (F:Nat) (name:(List UInt8)) (c:Int) (fs:(List ((List UInt8)×(List Int)))) (l:(List Zab)):Option (Int×Int×(List Zab)) :=
 (Zdt F name c fs l).bind fun y_0=>Option.bind (bif y_0==(0:Int) then (Zc2 F name c fs l).bind fun y_6=>some (y_6.1,y_6.2) else some (c,l)) fun (c_4,l_5)=>some (y_0,c_4,l_5)
def Zcb (F:Nat) (c:(List UInt8)) (cq2:Int) (cq3:Int) (y_0:(Int×(List (List Int)))) (y_1:(List UInt8)):Nat→Int→Int→(List ((List UInt8)×(List Int)))→(List Zab)→Option ((((Int×(List UInt8)×Int×Int×Int×(List ((List UInt8)×(List Int)))×(List Zab))) ⊕ (Int×(List ((List UInt8)×(List Int)))×(List Zab))))
 | 0,_,_,_,_=>none
 | n_18+1,t46_19,c_20,fs_21,l_22=>bif decide (t46_19<(y_0.2.length:Int)) then bif decide ((0:Int)≤t46_19) then ((y_0.2)[t46_19.toNat]?).bind fun y_25=>(Zcf F (([108,111,103,45]:List UInt8)++y_1) y_25 c_20 fs_21 l_22).bind fun y_26=>bif y_26.1 != (0:Int) then some (Sum.inl ((3:Int),c,(wrap .i64 (cq2+(1:Int))),cq3,y_26.2.1,y_26.2.2.1,y_26.2.2.2)) else (Zcb F c cq2 cq3 y_0 y_1 n_18 (wrap .i64 (t46_19+(1:Int))) y_26.2.1 y_26.2.2.1 y_26.2.2.2) else none else some (Sum.inr (c_20,fs_21,l_22))
def Zd0 (F:Nat) (recs:(List (List Int))) (c:(List UInt8)) (cq2:Int) (cq3:Int) (cq4:Int) (fs:(List ((List UInt8)×(List Int)))) (l:(List Zab)):Option (Int×(List UInt8)×Int×Int×Int×(List ((List UInt8)×(List Int)))×(List Zab)) :=
 (Zgt F recs).bind fun y_0=>bif y_0.1 != (0:Int) then some (y_0.1,c,cq2,cq3,cq4,fs,l) else (strconv_Itoa F (wrap .i64 (cq2+(1:Int)))).bind fun y_1=>bif decide (((List.length ([108,111,103,45]:List UInt8))+(y_1.length))≤9223372036854775807) then (ZfK F (([108,111,103,45]:List UInt8)++y_1)).bind fun y_2=>bif y_2==(0:Int) then some ((3:Int),c,(wrap .i64 (cq2+(1:Int))),cq3,cq4,fs,l) else Option.bind (
 (Zcb F c cq2 cq3 y_0 y_1 F (0:Int) cq4 fs l)
 ) fun o0=>Sum.elim (fun r=>some r) (fun (c_11,fs_12,l_13)=>(
 (Option.bind (ZcF F (([108,111,103,45]:List UInt8)++y_1) c_11 fs_12 l_13) fun y_27=>(
 (bif (!(c==([]:List UInt8))) then (
 none
 ) else (
 some ((0:Int),(([108,111,103,45]:List UInt8)++y_1),(wrap .i64 (cq2+(1:Int))),(List.length (List.map (cSl (cInt .u8)) recs):Int),y_27.2.1,fs_12,y_27.2.2)
 ))
 ))
 )) o0 else none
def ZdB (F:Nat) (y_0:(List (List UInt8))):Nat→Int→(List Int)→Option ((List Int))
 | 0,_,_=>none
 | n_11+1,t26_12,l_13=>bif decide (t26_12<(y_0.length:Int)) then Option.bind (bif decide ((0:Int)≤t26_12) then y_0[t26_12.toNat]?.bind fun y_17=>(ZfK F y_17).bind fun y_18=>bif decide ((0:Int)<y_18) then bif decide (((l_13.length)+1)≤LIM) then some (l_13++(y_18::[])) else none else some l_13 else none) fun l_16=>(ZdB F y_0 n_11 (wrap .i64 (t26_12+(1:Int))) l_16) else some l_13
def Zbz (F:Nat):List Int→Option (Unit)
 | []=>some ()
 | z_22::rr_23=>(strconv_Itoa F z_22).bind fun y_24=>bif decide (((List.length ([108,111,103,45]:List UInt8))+(y_24.length))≤9223372036854775807) then none else none
def Zga (F:Nat) (c:Int) (fs:(List ((List UInt8)×(List Int)))) (l:(List Zab)):Option ((Int×Int×(List ((List UInt8)×(List Int)))×(List (List Int))×(List Zab)) ⊕ ((List (List Int))×Int×Int×(List ((List UInt8)×(List Int)))×(List UInt8)×Int×Int×(List Zab))) :=
 (Zdu F c fs l).bind fun y_0=>((ZdB F y_0 F (0:Int) [])).bind fun l_7=>(ZbQ F l_7).bind fun y_19=>(ZbH F y_19).bind fun y_20=>(Zbz F (List.reverse y_20)).bind fun _=>(Zd0 F [] ([]:List UInt8) (0:Int) (0:Int) c fs l).bind fun y_26=>bif y_26.1 != (0:Int) then some (Sum.inl (y_26.1,y_26.2.2.2.2.1,y_26.2.2.2.2.2.1,[],y_26.2.2.2.2.2.2)) else some (Sum.inr ([],(0:Int),y_26.2.2.2.2.1,y_26.2.2.2.2.2.1,y_26.2.1,y_26.2.2.1,y_26.2.2.2.1,y_26.2.2.2.2.2.2))
def ZaB (F:Nat) (s:List Int):Option (List Int) :=
 bif decide (s.length≤LIM) then some s else none
def ZaG (F:Nat) (s:List Zaa):Option (List Zaa) :=
 bif decide (s.length≤LIM) then some s else none
def Zf0 (F:Nat) (r_:Zaf):Option Zaf :=
 (Zaw F r_.Conf).bind fun y_0=>(Zaw F r_.Votes).bind fun y_1=>(ZaB F r_.Next).bind fun y_2=>(ZaB F r_.Match).bind fun y_3=>(ZaG F r_.Trail.Entries).bind fun y_4=>some (Zaf.mk r_.Id y_0 r_.Term r_.Vote r_.Role r_.Leader (Zai.mk r_.Trail.Base r_.Trail.BaseTerm y_4) r_.Snap r_.Commit r_.Left r_.Wait y_1 y_2 y_3)
def ZdO (F:Nat) (r_:Zaf):Option Zaf :=
 (Zf0 F r_).bind fun y_0=>some (Zaf.mk y_0.Id y_0.Conf y_0.Term y_0.Vote (0:Int) (0:Int) y_0.Trail y_0.Snap y_0.Trail.Base (10:Int) (10:Int) [] [] [])
def Zb7 (F:Nat) (y_1:(Int×Int×(List ((List UInt8)×(List Int)))×(List (List Int))×(List Zab))):Nat→Option (Unit)
 | 0=>none
 | n_10+1=>bif decide ((0:Int)<(y_1.2.2.2.1.length:Int)) then ((y_1.2.2.2.1)[(Int.toNat (0:Int))]?).bind fun y_13=>((y_1.2.2.2.1)[(Int.toNat (0:Int))]?).bind fun y_14=>none else some ()
def Zb6 (F:Nat) (y_1:((List (List Int))×Int×Int×(List ((List UInt8)×(List Int)))×(List UInt8)×Int×Int×(List Zab))):Nat→Option (Unit)
 | 0=>none
 | n_20+1=>bif decide ((0:Int)<(y_1.1.length:Int)) then ((y_1.1)[(Int.toNat (0:Int))]?).bind fun y_22=>none else some ()
def ZdD (F:Nat) (id:Int) (conf:(List Int)) (c:Int) (fs:(List ((List UInt8)×(List Int)))) (l:(List Zab)):Option ((Zaf×Int×Int×(List ((List UInt8)×(List Int)))×(List Zab)) ⊕ ((Zaf×Int×Int×(List ((List UInt8)×(List Int)))×Int×(List Int)×Int×Int×Int×Int×Int×Int×(List Zaa)×(List UInt8)×Int×Int×Int×(List Int)×(List Int)×(List Int)×(List Zab)) ⊕ (Zaf×Int×Int×(List ((List UInt8)×(List Int)))×Int×(List Int)×Int×Int×Int×Int×Int×Int×(List Zaa)×(List UInt8)×Int×Int×Int×(List Int)×(List Int)×(List Int)×(List Zab)×(List UInt8)×Int×Int))) :=
 (Ziq F id conf).bind fun y_0=>bif y_0.2 != (0:Int) then some (Sum.inl ((Zaf.mk (0:Int) [] (0:Int) (0:Int) (0:Int) (0:Int) (Zai.mk (0:Int) (0:Int) []) ([]:List UInt8) (0:Int) (0:Int) (0:Int) [] [] []),(1:Int),c,fs,l)) else (Zga F c fs l).bind fun y_1=>(Sum.elim (fun y_1=>( (bif (y_1.1 != (0:Int)) then ( some (Sum.inl ((Zaf.mk (0:Int) [] (0:Int) (0:Int) (0:Int) (0:Int) (Zai.mk (0:Int) (0:Int) []) ([]:List UInt8) (0:Int) (0:Int) (0:Int) [] [] []),y_1.1,y_1.2.1,y_1.2.2.1,y_1.2.2.2.2)) ) else ( (Option.bind ( (Zb7 F y_1 F) ) fun _=>( (Option.bind (ZdO F y_0.1) fun y_15=>( some (Sum.inr (Sum.inl (y_15,(0:Int),y_1.2.1,y_1.2.2.1,y_0.1.Id,y_0.1.Conf,y_0.1.Term,y_0.1.Vote,y_0.1.Role,y_0.1.Leader,y_0.1.Trail.Base,y_0.1.Trail.BaseTerm,y_0.1.Trail.Entries,y_0.1.Snap,y_0.1.Commit,y_0.1.Left,y_0.1.Wait,y_0.1.Votes,y_0.1.Next,y_0.1.Match,y_1.2.2.2.2))) )) )) )) )) (fun y_1=>( (bif (y_1.2.1 != (0:Int)) then ( some (Sum.inl ((Zaf.mk (0:Int) [] (0:Int) (0:Int) (0:Int) (0:Int) (Zai.mk (0:Int) (0:Int) []) ([]:List UInt8) (0:Int) (0:Int) (0:Int) [] [] []),y_1.2.1,y_1.2.2.1,y_1.2.2.2.1,y_1.2.2.2.2.2.2.2)) ) else ( (Option.bind ( (Zb6 F y_1 F) ) fun _=>( (Option.bind (ZdO F y_0.1) fun y_23=>( some (Sum.inr (Sum.inr (y_23,(0:Int),y_1.2.2.1,y_1.2.2.2.1,y_0.1.Id,y_0.1.Conf,y_0.1.Term,y_0.1.Vote,y_0.1.Role,y_0.1.Leader,y_0.1.Trail.Base,y_0.1.Trail.BaseTerm,y_0.1.Trail.Entries,y_0.1.Snap,y_0.1.Commit,y_0.1.Left,y_0.1.Wait,y_0.1.Votes,y_0.1.Next,y_0.1.Match,y_1.2.2.2.2.2.2.2,y_1.2.2.2.2.1,y_1.2.2.2.2.2.1,y_1.2.2.2.2.2.2.1))) )) )) )) )) y_1)
def Zbc (F:Nat) (b:(List Int)):Nat→Int→Int→Option ((((Int×Int×Int)) ⊕ Unit))
 | 0,_,_=>none
 | n_10+1,n_11,t10_12=>bif decide (t10_12<(b.length:Int)) then bif decide ((0:Int)≤t10_12) then b[t10_12.toNat]?.bind fun y_15=>Option.bind (bif t10_12==(9:Int) then bif decide ((1:Int)<y_15) then some true else bif decide ((0:Int)<t10_12) then some (y_15==(0:Int)) else some false else bif decide ((0:Int)<t10_12) then some (y_15==(0:Int)) else some false) fun t28_16=>bif t28_16 then some (Sum.inl ((0:Int),(0:Int),(21:Int))) else bif decide ((0:Int)≤(wrap .i64 ((7:Int) * t10_12))) then bif decide (y_15<(128:Int)) then some (Sum.inl ((@ibits BinOp.or IntKind.u64 n_11 (wrap .u64 ((wrap .u64 (@ibits BinOp.and IntKind.u8 y_15 (127:Int))) * ((2:Int) ^ (min (Int.toNat (wrap .i64 ((7:Int) * t10_12))) 64))))),(wrap .i64 (t10_12+(1:Int))),(0:Int))) else (Zbc F b n_10 (@ibits BinOp.or IntKind.u64 n_11 (wrap .u64 ((wrap .u64 (@ibits BinOp.and IntKind.u8 y_15 (127:Int))) * ((2:Int) ^ (min (Int.toNat (wrap .i64 ((7:Int) * t10_12))) 64))))) (wrap .i64 (t10_12+(1:Int)))) else none else none else some (Sum.inr ())
def Zdo (F:Nat) (b:(List Int)):Option (Int×Int×Int) :=
 Option.bind (
 (Zbc F b F (0:Int) (0:Int))
 ) fun o2=>Sum.elim (fun r=>some r) (fun _=>(
 some ((0:Int),(0:Int),(20:Int))
 )) o2
def ZdG (F:Nat) (kind:Int) (b:(List Int)):Option (Zac×Int×Int) :=
 Option.bind (bif kind != (1:Int) then bif kind != (2:Int) then some (kind != (3:Int)) else some false else some false) fun t22_0=>bif t22_0 then some ((Zac.mk kind (0:Int) ([]:List UInt8)),(0:Int),(1:Int)) else (Zdo F b).bind fun y_1=>bif y_1.2.2 != (0:Int) then some ((Zac.mk kind (0:Int) ([]:List UInt8)),(0:Int),y_1.2.2) else Option.bind (
 (bif (kind==(1:Int)) then (
 (bif ((@Int.fdiv y_1.1 ((2:Int) ^ (min (Int.toNat (63:Int)) 64))) != (0:Int)) then (
 some (Sum.inl ((Zac.mk kind (0:Int) ([]:List UInt8)),(0:Int),(21:Int)))
 ) else (
 some (Sum.inr (y_1.2.1,(wrap .i64 y_1.1),([]:List UInt8)))
 ))
 ) else (
 (bif (kind==(2:Int)) then (
 some (Sum.inr (y_1.2.1,(@ibits BinOp.xor IntKind.i64 (wrap .i64 (@Int.fdiv y_1.1 ((2:Int) ^ (min (Int.toNat (1:Int)) 64)))) (wrap .i64 ((0:Int) - (wrap .i64 (@ibits BinOp.and IntKind.u64 y_1.1 (1:Int)))))),([]:List UInt8)))
 ) else (
 (bif (decide ((65536:Int)<y_1.1)) then (
 some (Sum.inl ((Zac.mk kind (0:Int) ([]:List UInt8)),(0:Int),(21:Int)))
 ) else (
 (bif (decide ((wrap .i64 ((b.length:Int) - y_1.2.1))<(wrap .i64 y_1.1))) then (
 some (Sum.inl ((Zac.mk kind (0:Int) ([]:List UInt8)),(0:Int),(20:Int)))
 ) else (
 (bif decide ((0:Int)≤y_1.2.1) then (
 (bif decide ((0:Int)≤(wrap .i64 (y_1.2.1+(wrap .i64 y_1.1)))) then (
 (bif decide ((Int.toNat y_1.2.1)≤(Int.toNat (wrap .i64 (y_1.2.1+(wrap .i64 y_1.1))))) then (
 (bif decide ((Int.toNat (wrap .i64 (y_1.2.1+(wrap .i64 y_1.1))))≤(b.length)) then (
 (bif ZdY (List.drop (Int.toNat y_1.2.1) (List.take (Int.toNat (wrap .i64 (y_1.2.1+(wrap .i64 y_1.1)))) b)) then (
 some (Sum.inr ((wrap .i64 (y_1.2.1+(wrap .i64 y_1.1))),(0:Int),(@toBytes (List.drop (Int.toNat y_1.2.1) (List.take (Int.toNat (wrap .i64 (y_1.2.1+(wrap .i64 y_1.1)))) b)))))
 ) else none)
 ) else none)
 ) else none)
 ) else none)
 ) else none)
 ))
 ))
 ))
 ))
 ) fun o1=>Sum.elim (fun r=>some r) (fun (size_2,c_3,c_4)=>(
 some ((Zac.mk kind c_3 c_4),size_2,(0:Int))
 )) o1
def Za8 (F:Nat) (kinds:(List Int)):Nat→(List Int)→Int→(List Zac)→Option ((((Int×(List Zac))) ⊕ ((List Int)×(List Zac))))
 | 0,_,_,_=>none
 | n_14+1,b_15,t14_16,l_17=>bif decide (t14_16<(kinds.length:Int)) then bif decide ((0:Int)≤t14_16) then kinds[t14_16.toNat]?.bind fun y_20=>(ZdG F y_20 b_15).bind fun y_21=>bif y_21.2.2 != (0:Int) then some (Sum.inl (y_21.2.2,[])) else bif decide (((l_17.length)+1)≤LIM) then bif decide ((0:Int)≤y_21.2.1) then bif decide ((Int.toNat y_21.2.1)≤(b_15.length)) then bif decide ((b_15.length)≤(b_15.length)) then (Za8 F kinds n_14 (List.drop (Int.toNat y_21.2.1) b_15) (wrap .i64 (t14_16+(1:Int))) (l_17++(y_21.1::[]))) else none else none else none else none else none else some (Sum.inr (b_15,l_17))
def ZcY (F:Nat) (kinds:(List Int)) (b:(List Int)):Option (Int×(List Zac)) :=
 Option.bind (
 (Za8 F kinds F b (0:Int) [])
 ) fun o0=>Sum.elim (fun r=>some r) (fun (b_8,l_9)=>(
 (bif (decide ((0:Int)<(b_8.length:Int))) then (
 some ((21:Int),[])
 ) else (
 some ((0:Int),l_9)
 ))
 )) o0
def Zc6 (F:Nat) (s:(List UInt8)):Option (Int×Int) :=
 bif decide ((s.length)≤LIM) then (ZcY F ((1:Int)::((1:Int)::[])) (List.map (fun (b_13:UInt8)=>(((UInt8.toNat b_13):Nat):Int)) s)).bind fun y_0=>bif y_0.1 != (0:Int) then some ((0:Int),(0:Int)) else ((y_0.2)[(Int.toNat (0:Int))]?).bind fun y_1=>((y_0.2)[(Int.toNat (1:Int))]?).bind fun y_2=>some (y_1.N,(wrap .u32 y_2.N)) else none
def ZcO (F:Nat) (id:Int) (c:(List Int)) (cq2:Bool) (cq3:Int) (cq4:(List Int)) (cq5:Int) (cq6:Int) (cq7:Int) (cq8:Int) (cq9:Int) (cq10:Int) (cq11:(List Zaa)) (cq12:(List UInt8)) (cq13:Int) (cq14:Int) (cq15:Int) (cq16:(List Int)) (cq17:(List Int)) (cq18:(List Int)) (cq19:Int) (cq20:Int) (gs:(List (Int×group_node))) (gk:Int) (cq23:Int) (tb:Bool) (l:(List Zaa)) (lq26:(List Int)) (lq27:(List Int)) (lq28:(List Zah)) (cq29:Int) (lq30:(List Zag)) (m:(List (Zae×Int))) (fs:(List ((List UInt8)×(List Int)))) (lq33:(List Zab)):Option (Int×(List (Int×group_node))) :=
 (ZdD F id c cq29 fs lq33).bind fun y_0=>(Sum.elim (fun y_0=>( (bif (y_0.2.1 != (0:Int)) then ( (bif Option.isSome (mget gk gs) then (some (y_0.2.1,(mput gk (@Sum.inl group_nodeD group_nodeU (group_nodeD.mk y_0.2.2.2.1 y_0.2.2.2.2 y_0.2.2.1 (Zaf.mk cq3 cq4 cq5 cq6 cq7 cq8 (Zai.mk cq9 cq10 cq11) cq12 cq13 cq14 cq15 cq16 cq17 cq18) cq19 cq20)) gs))) else none) ) else ( (Option.bind (Zc6 F y_0.1.Snap) fun y_1=>( none )) )) )) (fun y_0=>( (Sum.elim (fun y_0=>( (bif (y_0.2.1 != (0:Int)) then ( (bif Option.isSome (mget gk gs) then (some (y_0.2.1,(mput gk (@Sum.inl group_nodeD group_nodeU (group_nodeD.mk y_0.2.2.2.1 y_0.2.2.2.2.2.2.2.2.2.2.2.2.2.2.2.2.2.2.2.2 y_0.2.2.1 (Zaf.mk cq3 cq4 cq5 cq6 cq7 cq8 (Zai.mk cq9 cq10 cq11) cq12 cq13 cq14 cq15 cq16 cq17 cq18) cq19 cq20)) gs))) else none) ) else ( (Option.bind (Zc6 F y_0.1.Snap) fun y_2=>( none )) )) )) (fun y_0=>( (bif (y_0.2.1 != (0:Int)) then ( (bif Option.isSome (mget gk gs) then (some (y_0.2.1,(mput gk (@Sum.inl group_nodeD group_nodeU (group_nodeD.mk y_0.2.2.2.1 y_0.2.2.2.2.2.2.2.2.2.2.2.2.2.2.2.2.2.2.2.2.1 y_0.2.2.1 (Zaf.mk cq3 cq4 cq5 cq6 cq7 cq8 (Zai.mk cq9 cq10 cq11) cq12 cq13 cq14 cq15 cq16 cq17 cq18) cq19 cq20)) gs))) else none) ) else ( (Option.bind (Zc6 F y_0.1.Snap) fun y_3=>( (bif Option.isSome (mget gk gs) then (some ((0:Int),(mput gk (@Sum.inr group_nodeD group_nodeU (group_nodeU.mk y_0.2.2.2.1 y_0.2.2.2.2.2.2.2.2.2.2.2.2.2.2.2.2.2.2.2.2.1 y_0.2.2.1 y_0.2.2.2.2.2.2.2.2.2.2.2.2.2.2.2.2.2.2.2.2.2.1 y_0.2.2.2.2.2.2.2.2.2.2.2.2.2.2.2.2.2.2.2.2.2.2.1 y_0.2.2.2.2.2.2.2.2.2.2.2.2.2.2.2.2.2.2.2.2.2.2.2 (Zaf.mk y_0.2.2.2.2.1 y_0.2.2.2.2.2.1 y_0.2.2.2.2.2.2.1 y_0.2.2.2.2.2.2.2.1 y_0.2.2.2.2.2.2.2.2.1 y_0.2.2.2.2.2.2.2.2.2.1 (Zai.mk y_0.2.2.2.2.2.2.2.2.2.2.1 y_0.2.2.2.2.2.2.2.2.2.2.2.1 y_0.2.2.2.2.2.2.2.2.2.2.2.2.1) y_0.2.2.2.2.2.2.2.2.2.2.2.2.2.1 y_0.2.2.2.2.2.2.2.2.2.2.2.2.2.2.1 y_0.2.2.2.2.2.2.2.2.2.2.2.2.2.2.2.1 y_0.2.2.2.2.2.2.2.2.2.2.2.2.2.2.2.2.1 y_0.2.2.2.2.2.2.2.2.2.2.2.2.2.2.2.2.2.1 y_0.2.2.2.2.2.2.2.2.2.2.2.2.2.2.2.2.2.2.1 y_0.2.2.2.2.2.2.2.2.2.2.2.2.2.2.2.2.2.2.2.1) y_0.1 y_3.1 y_3.2)) gs))) else none) )) )) )) y_0) )) y_0)
def Zc7 (F:Nat) (conf:(List Int)) (y_1:(List Int)) (y_2:(Int×(List Zag)×(List (Zae×Int)))) (y_3:Bool):Nat→Int→(List (Int×group_node))→Option ((List (Int×group_node)))
 | 0,_,_=>none
 | n_23+1,t22_24,gs_25=>bif decide (t22_24<(conf.length:Int)) then bif decide ((0:Int)≤t22_24) then conf[t22_24.toNat]?.bind fun y_29=>(ZiE F).bind fun y_30=>bif !Option.isSome (mget y_29 gs_25) && Nat.blt (gs_25.length) LIM then (ZcO F y_29 y_1 false (0:Int) [] (0:Int) (0:Int) (0:Int) (0:Int) (0:Int) (0:Int) [] ([]:List UInt8) (0:Int) (0:Int) (0:Int) [] [] [] (0:Int) (0:Int) (mput y_29 (@Sum.inl group_nodeD group_nodeU (@Inhabited.default group_nodeD instInhabitedGroup_nodeD)) gs_25) y_29 y_2.1 y_3 [] ((0:Int)::[]) ((0:Int)::[]) [] y_30.1 y_2.2.1 y_2.2.2 y_30.2 []).bind fun y_31=>(Zc7 F conf y_1 y_2 y_3 n_23 (wrap .i64 (t22_24+(1:Int))) y_31.2) else none else none else some gs_25
def Zem (F:Nat) (conf:(List Int)):Option (Int ⊕ (Int×(List Int)×Bool×(List (Int×group_node))×Int×Bool×(List Zaa)×(List Int)×(List Int)×(List Zah)×(List Zag)×(List (Zae×Int)))) :=
 (Zc5 F conf).bind fun y_0=>bif !y_0 then some (Sum.inl (1:Int)) else (Zaw F conf).bind fun y_1=>(Ziw F).bind fun y_2=>(ZjJ F).bind fun y_3=>((Zc7 F conf y_1 y_2 y_3 F (0:Int) [])).bind fun gs_16=>some (Sum.inr ((0:Int),y_1,false,gs_16,y_2.1,y_3,[],((0:Int)::[]),((0:Int)::[]),[],y_2.2.1,y_2.2.2))
def ZgF (F:Nat):Option (Int×Int×Int×Int×Int×Int×Int×Int×Int×Int) :=
 some ((1:Int),(2:Int),(3:Int),(4:Int),(5:Int),(6:Int),(7:Int),(8:Int),(9:Int),(10:Int))
def ZaY (F:Nat) (id:Int) (c:(List Int)) (cq2:Bool) (gs:(List (Int×group_node))) (cq4:Int) (tb:Bool) (l:(List Zaa)) (lq7:(List Int)) (lq8:(List Int)) (lq9:(List Zah)) (lq10:(List Zag)) (m:(List (Zae×Int))):Option ((Int×(List (Int×group_node))) ⊕ (Int×(List (Int×group_node))×Int×Int×(List Int)×Int×Int×Int×Int×Int×Int×(List Zaa)×(List UInt8)×Int×Int×Int×(List Int)×(List Int)×(List Int)×Int×Int×Int×Int×(List Int)×Int×Int×Int×Int×Int×Int×(List Zaa)×(List UInt8)×Int×Int×Int×(List Int)×(List Int)×(List Int)×(List ((List UInt8)×(List Int)))×(List Zab)×(List UInt8)×Int×Int)) :=
 (Option.elim ((mget id gs)) ( some (Sum.inl ((1:Int),gs)) ) fun x=>Sum.elim (fun (d_0:group_nodeD)=>( (bif Option.isSome (mget id gs) then (some (Sum.inl ((4:Int),(mput id (@Sum.inl group_nodeD group_nodeU d_0) gs)))) else none) )) (fun (u_1:group_nodeU)=>( some (Sum.inr ((0:Int),gs,id,u_1.raft.Id,u_1.raft.Conf,u_1.raft.Term,u_1.raft.Vote,u_1.raft.Role,u_1.raft.Leader,u_1.raft.Trail.Base,u_1.raft.Trail.BaseTerm,u_1.raft.Trail.Entries,u_1.raft.Snap,u_1.raft.Commit,u_1.raft.Left,u_1.raft.Wait,u_1.raft.Votes,u_1.raft.Next,u_1.raft.Match,u_1.count,u_1.sum,u_1.total,u_1.kept.Id,u_1.kept.Conf,u_1.kept.Term,u_1.kept.Vote,u_1.kept.Role,u_1.kept.Leader,u_1.kept.Trail.Base,u_1.kept.Trail.BaseTerm,u_1.kept.Trail.Entries,u_1.kept.Snap,u_1.kept.Commit,u_1.kept.Left,u_1.kept.Wait,u_1.kept.Votes,u_1.kept.Next,u_1.kept.Match,u_1.files,u_1.waits,u_1.file,u_1.last,u_1.recs)) )) x)
def ZeE (F:Nat) (r_:Zaf):Option (Int×(List Int)×Int×Int×Int×Int×Int×Int×(List Zaa)×(List UInt8)×Int×Int×Int×(List Int)×(List Int)×(List Int)) :=
 (Zaw F r_.Conf).bind fun y_0=>(Zaw F r_.Votes).bind fun y_1=>(ZaB F r_.Next).bind fun y_2=>(ZaB F r_.Match).bind fun y_3=>(ZaG F r_.Trail.Entries).bind fun y_4=>some (r_.Id,y_0,r_.Term,r_.Vote,r_.Role,r_.Leader,r_.Trail.Base,r_.Trail.BaseTerm,y_4,r_.Snap,r_.Commit,r_.Left,r_.Wait,y_1,y_2,y_3)
def ZfO (F:Nat) (r_:Zaf):Option (Int×(List Int)×Int×Int×Int×Int×Int×Int×(List Zaa)×(List UInt8)×Int×Int×Int×(List Int)×(List Int)×(List Int)×(List Zad)) :=
 (ZeE F r_).bind fun y_0=>some (y_0.1,y_0.2.1,y_0.2.2.1,y_0.2.2.2.1,y_0.2.2.2.2.1,y_0.2.2.2.2.2.1,y_0.2.2.2.2.2.2.1,y_0.2.2.2.2.2.2.2.1,y_0.2.2.2.2.2.2.2.2.1,y_0.2.2.2.2.2.2.2.2.2.1,y_0.2.2.2.2.2.2.2.2.2.2.1,y_0.2.2.2.2.2.2.2.2.2.2.2.1,y_0.2.2.2.2.2.2.2.2.2.2.2.2.1,y_0.2.2.2.2.2.2.2.2.2.2.2.2.2.1,y_0.2.2.2.2.2.2.2.2.2.2.2.2.2.2.1,y_0.2.2.2.2.2.2.2.2.2.2.2.2.2.2.2,[])
def Zbu (F:Nat) (c:Int) (cq1:(List Int)):Nat→Int→Option (Unit)
 | 0,_=>none
 | n_6+1,t10_7=>bif decide (t10_7<(cq1.length:Int)) then bif decide ((0:Int)≤t10_7) then cq1[t10_7.toNat]?.bind fun y_9=>bif y_9 != c then none else (Zbu F c cq1 n_6 (wrap .i64 (t10_7+(1:Int)))) else none else some ()
def Zbp (F:Nat) (c:Int) (cq1:(List Int)) (cq2:Int) (cq3:Int) (cq4:Int) (cq5:Int) (cq6:Int) (cq7:Int) (cq8:(List Zaa)) (cq9:(List UInt8)) (cq10:Int) (cq11:Int) (cq12:Int) (l:(List Int)) (lq14:(List Int)) (lq15:(List Int)) (lq16:(List Zad)):Option Unit :=
 ((Zbu F c cq1 F (0:Int))).bind fun _=>some ()
def ZdN (F:Nat) (conf:(List Int)) (set:(List Int)):Nat→Int→Int→Option (Int)
 | 0,_,_=>none
 | n_10+1,n_11,t10_12=>bif decide (t10_12<(conf.length:Int)) then Option.bind (bif decide ((0:Int)≤t10_12) then conf[t10_12.toNat]?.bind fun y_16=>(Zbf F set y_16).bind fun y_17=>bif y_17 then some (wrap .i64 (n_11+(1:Int))) else some n_11 else none) fun n_15=>(ZdN F conf set n_10 n_15 (wrap .i64 (t10_12+(1:Int)))) else some n_11
def Zf2 (F:Nat) (conf:(List Int)) (set:(List Int)):Option Bool :=
 ((ZdN F conf set F (0:Int) (0:Int))).bind fun n_6=>(Zc5 F conf).bind fun y_18=>bif y_18 then some (decide ((List.length (List.map (cInt .i64) conf):Int)<(wrap .i64 ((2:Int) * n_6)))) else some false
def Zby (F:Nat) (c:Int) (cq1:(List Int)) (cq2:Int) (cq3:Int) (cq4:Int) (cq5:Int) (cq6:Int) (cq7:Int) (cq8:(List Zaa)) (cq9:(List UInt8)) (cq10:Int) (cq11:Int) (cq12:Int) (l:(List Int)) (lq14:(List Int)) (lq15:(List Int)) (lq16:(List Zad)):Option Int :=
 (Zea F (Zai.mk cq6 cq7 cq8)).bind fun y_0=>some y_0.1
def Zei (F:Nat) (x:Int) (y:Int):Option (Int×Int) :=
 some ((wrap .u64 ((wrap .u64 ((wrap .u64 ((@Int.fdiv x ((2:Int) ^ (min (Int.toNat (32:Int)) 64))) * (@Int.fdiv y ((2:Int) ^ (min (Int.toNat (32:Int)) 64)))))+(@Int.fdiv (wrap .u64 ((wrap .u64 ((@Int.fdiv x ((2:Int) ^ (min (Int.toNat (32:Int)) 64))) * (@ibits BinOp.and IntKind.u64 y (4294967295:Int))))+(@Int.fdiv (wrap .u64 ((@ibits BinOp.and IntKind.u64 x (4294967295:Int)) * (@ibits BinOp.and IntKind.u64 y (4294967295:Int)))) ((2:Int) ^ (min (Int.toNat (32:Int)) 64))))) ((2:Int) ^ (min (Int.toNat (32:Int)) 64)))))+(@Int.fdiv (wrap .u64 ((@ibits BinOp.and IntKind.u64 (wrap .u64 ((wrap .u64 ((@Int.fdiv x ((2:Int) ^ (min (Int.toNat (32:Int)) 64))) * (@ibits BinOp.and IntKind.u64 y (4294967295:Int))))+(@Int.fdiv (wrap .u64 ((@ibits BinOp.and IntKind.u64 x (4294967295:Int)) * (@ibits BinOp.and IntKind.u64 y (4294967295:Int)))) ((2:Int) ^ (min (Int.toNat (32:Int)) 64))))) (4294967295:Int))+(wrap .u64 ((@ibits BinOp.and IntKind.u64 x (4294967295:Int)) * (@Int.fdiv y ((2:Int) ^ (min (Int.toNat (32:Int)) 64))))))) ((2:Int) ^ (min (Int.toNat (32:Int)) 64))))),(wrap .u64 (x * y)))
def ZeY (F:Nat) (x:Int) (y:Int):Option (Int×Int) :=
 (Zei F x y).bind fun y_0=>some (y_0.1,y_0.2)
def ZaQ (F:Nat):Nat→Int→(List Int)→Option ((List Int))
 | 0,_,_=>none
 | n_3+1,n_4,l_5=>bif decide (n_4<(l_5.length:Int)) then bif decide ((0:Int)≤n_4) then bif decide (n_4.toNat≤(l_5.length)) then bif decide ((l_5.length)≤(l_5.length)) then bif decide ((0:Int)≤n_4) then bif decide (0≤n_4.toNat) then bif decide (n_4.toNat≤(l_5.length)) then bif decide ((n_4.toNat+((l_5.length) - n_4.toNat))≤(l_5.length)) then (ZaQ F n_3 (wrap .i64 (n_4+((min ((List.length (List.map (cInt .i64) l_5)) - n_4.toNat) (List.length (List.take (n_4.toNat - 0) (List.drop 0 (List.map (cInt .i64) l_5)))):Nat):Int))) ((List.take n_4.toNat l_5)++((List.take (min ((List.length (List.map (cInt .i64) l_5)) - n_4.toNat) (List.length (List.take (n_4.toNat - 0) (List.drop 0 (List.map (cInt .i64) l_5))))) (List.take (n_4.toNat - 0) (List.drop 0 l_5)))++(List.drop (n_4.toNat+(min ((List.length (List.map (cInt .i64) l_5)) - n_4.toNat) (List.length (List.take (n_4.toNat - 0) (List.drop 0 (List.map (cInt .i64) l_5)))))) l_5)))) else none else none else none else none else none else none else none else some l_5
def Zbr (F:Nat) (x:(List Int)) (count:Int):Option (List Int) :=
 bif (decide (count<(0:Int))) then none else (
 (Option.bind (ZeY F (wrap .u64 (List.length (List.map (cInt .i64) x):Int)) (wrap .u64 count)) fun y_0=>(
 (Option.bind (
 (bif (decide ((0:Int)<y_0.1)) then (
 some true
 ) else (
 some (decide ((9223372036854775807:Int)<y_0.2))
 ))
 ) fun t26_1=>(
 (bif t26_1 then none else (
 (bif decide ((0:Int)≤(wrap .i64 y_0.2)) then (
 (bif decide ((wrap .i64 y_0.2)≤(wrap .i64 y_0.2)) then (
 (bif decide ((wrap .i64 y_0.2)≤(@Nat.cast Int instNatCastInt LIM)) then (
 (Option.bind (
 (ZaQ F F ((min (List.length (List.replicate (Int.toNat (wrap .i64 y_0.2)) ((AV.int .i64 (0:Int))::[]))) (List.length (List.map (cInt .i64) x)):Nat):Int) ((List.take 0 (List.replicate (Int.toNat (wrap .i64 y_0.2)) (0:Int)))++((List.take (min (List.length (List.replicate (Int.toNat (wrap .i64 y_0.2)) ((AV.int .i64 (0:Int))::[]))) (List.length (List.map (cInt .i64) x))) x)++(List.drop (0+(min (List.length (List.replicate (Int.toNat (wrap .i64 y_0.2)) ((AV.int .i64 (0:Int))::[]))) (List.length (List.map (cInt .i64) x)))) (List.replicate (Int.toNat (wrap .i64 y_0.2)) (0:Int))))))
 ) fun l_2=>(
 some l_2
 ))
 ) else none)
 ) else none)
 ) else none)
 ))
 ))
 ))
 )
def Zgu (F:Nat) (t:Zai) (keep:Int) (more:(List Zaa)):Option (Zai×Bool) :=
 bif decide ((0:Int)≤keep) then bif decide (0≤keep.toNat) then bif decide (keep.toNat≤(t.Entries.length)) then bif decide ((List.length (@cut (@List AV) none (some (Operand.tmp 18)) (List.map Zaa.c t.Entries) 0 keep.toNat))≤LIM) then bif decide (((List.length (@cut (@List AV) none (some (Operand.tmp 18)) (List.map Zaa.c t.Entries) 0 keep.toNat))+(more.length))≤LIM) then (ZcW F (Zai.mk t.Base t.BaseTerm ((List.take keep.toNat t.Entries)++more))).bind fun y_0=>bif !y_0 then some ((Zai.mk (0:Int) (0:Int) []),false) else some ((Zai.mk t.Base t.BaseTerm ((List.take keep.toNat t.Entries)++more)),true) else none else none else none else none else none
def Zey (F:Nat) (t:Zai) (e:Zaa):Option (Zai×Bool) :=
 (ZcW F t).bind fun y_0=>bif !y_0 then some ((Zai.mk (0:Int) (0:Int) []),false) else (Zgu F t (List.length (List.map Zaa.c t.Entries):Int) (e::[])).bind fun y_1=>some (y_1.1,y_1.2)
def Zcc (F:Nat) (c:Int) (cq1:(List Int)) (cq2:Int) (cq3:Int) (cq4:Int) (cq5:Int) (cq6:Int) (cq7:Int) (cq8:(List Zaa)) (cq9:(List UInt8)) (cq10:Int) (cq11:Int) (cq12:Int) (l:(List Int)) (lq14:(List Int)) (lq15:(List Int)) (lq16:(List Zad)):Option ((List Int)×(List Int)) :=
 (Zbs F cq1 c).bind fun y_0=>(Zby F c cq1 cq2 cq3 cq4 cq5 cq6 cq7 cq8 cq9 cq10 cq11 cq12 l lq14 lq15 lq16).bind fun y_1=>(Zby F c cq1 cq2 cq3 cq4 cq5 cq6 cq7 cq8 cq9 cq10 cq11 cq12 l lq14 lq15 lq16).bind fun y_2=>bif decide ((0:Int)≤y_0) then lq15[y_0.toNat]?.bind fun y_3=>lq15[y_0.toNat]?.bind fun y_4=>bif decide ((0:Int)≤y_0) then lq14[y_0.toNat]?.bind fun y_5=>lq14[y_0.toNat]?.bind fun y_6=>some ((List.set lq14 y_0.toNat (wrap .i64 (y_2+(1:Int)))),(List.set lq15 y_0.toNat y_1)) else none else none
def ZcU (F:Nat) (x:Int):Option Bool :=
 some (x != x)
def Zer (F:Nat) (x:Int) (y:Int):Option Bool :=
 (ZcU F x).bind fun y_0=>bif y_0 then (ZcU F y).bind fun y_1=>bif !y_1 then some true else some (decide (x<y)) else some (decide (x<y))
def ZaV (F:Nat) (data:(List Int)) (a:Int) (i_31:Int):Nat→Option (Unit)
 | 0=>none
 | n_62+1=>Option.bind (bif decide (a<i_31) then bif decide ((0:Int)≤i_31) then data[i_31.toNat]?.bind fun y_67=>bif decide ((0:Int)≤(wrap .i64 (i_31 - (1:Int)))) then data[(Int.toNat (wrap .i64 (i_31 - (1:Int))))]?.bind fun y_68=>(Zer F y_67 y_68).bind fun y_69=>some y_69 else none else none else some false) fun t30_66=>bif t30_66 then bif decide ((0:Int)≤(wrap .i64 (i_31 - (1:Int)))) then data[(Int.toNat (wrap .i64 (i_31 - (1:Int))))]?.bind fun y_73=>bif decide ((0:Int)≤i_31) then data[i_31.toNat]?.bind fun y_74=>bif decide ((0:Int)≤i_31) then data[i_31.toNat]?.bind fun y_75=>none else none else none else none else some ()
def Zay (F:Nat) (data:(List Int)) (a:Int) (b:Int):Nat→Int→Option (Unit)
 | 0,_=>none
 | n_30+1,i_31=>bif decide (i_31<b) then Option.bind (((ZaV F data a i_31 F)).bind fun _=>some ()) fun _=>(Zay F data a b n_30 (wrap .i64 (i_31+(1:Int)))) else some ()
def Za7 (F:Nat) (data:(List Int)) (a:Int) (b:Int):Option Unit :=
 ((Zay F data a b F (wrap .i64 (a+(1:Int))))).bind fun _=>some ()
def Zbg (F:Nat) (data:(List Int)) (a:Int) (b:Int) (limit:Int):Nat→Option (Unit)
 | 0=>none
 | n_1+1=>bif decide ((wrap .i64 (b - a))≤(12:Int)) then (Za7 F data a b).bind fun y_2=>some () else bif limit==(0:Int) then none else none
def Zbq (F:Nat) (data:(List Int)) (a:Int) (b:Int) (limit:Int):Option Unit :=
 (Zbg F data a b limit F)
def ZbF (F:Nat) (x:(List Int)):Option Unit :=
 (ZeZ F (wrap .u64 (List.length (List.map (cInt .i64) x):Int))).bind fun y_0=>(Zbq F x (0:Int) (List.length (List.map (cInt .i64) x):Int) y_0).bind fun y_1=>some ()
def ZcB (F:Nat) (match_:(List Zah)) (y_27:Int):Nat→Int→Int→Option (Int)
 | 0,_,_=>none
 | n_33+1,n_34,t22_35=>bif decide (t22_35<(match_.length:Int)) then Option.bind (bif decide ((0:Int)≤t22_35) then match_[t22_35.toNat]?.bind fun y_38=>bif y_38.Id==y_27 then some y_38.At else some n_34 else none) fun n_37=>(ZcB F match_ y_27 n_33 n_37 (wrap .i64 (t22_35+(1:Int)))) else some n_34
def ZcC (F:Nat) (conf:(List Int)) (match_:(List Zah)):Nat→Int→(List Int)→Option ((List Int))
 | 0,_,_=>none
 | n_19+1,t16_20,l_21=>bif decide (t16_20<(conf.length:Int)) then Option.bind (bif decide ((0:Int)≤t16_20) then conf[t16_20.toNat]?.bind fun y_27=>((ZcB F match_ y_27 F (0:Int) (0:Int))).bind fun n_30=>bif decide (((l_21.length)+1)≤LIM) then some (l_21++(n_30::[])) else none else none) fun l_26=>(ZcC F conf match_ n_19 (wrap .i64 (t16_20+(1:Int))) l_26) else some l_21
def ZeG (F:Nat) (conf:(List Int)) (match_:(List Zah)):Option Int :=
 (Zc5 F conf).bind fun y_0=>bif !y_0 then some (0:Int) else ((ZcC F conf match_ F (0:Int) [])).bind fun l_13=>(ZbF F l_13).bind fun y_39=>bif decide ((0:Int)≤(wrap .i64 (@Int.tdiv (wrap .i64 ((l_13.length:Int) - (1:Int))) (2:Int)))) then l_13[(Int.toNat (wrap .i64 (@Int.tdiv (wrap .i64 ((List.length (List.map (cInt .i64) l_13):Int) - (1:Int))) (2:Int))))]?.bind fun y_40=>l_13[(Int.toNat (wrap .i64 (@Int.tdiv (wrap .i64 ((List.length (List.map (cInt .i64) l_13):Int) - (1:Int))) (2:Int))))]?.bind fun y_41=>some y_41 else none
def Zgv (F:Nat) (t:Zai) (n:Int):Option (Int×Bool) :=
 Option.bind ((ZcW F t).bind fun y_3=>bif !y_3 then some true else bif decide (n<t.Base) then some true else (ZdC F t).bind fun y_4=>some (decide (y_4<n))) fun t20_2=>bif t20_2 then some ((0:Int),false) else (ZfM F t n).bind fun y_5=>some (y_5,true)
def ZbP (F:Nat) (cq1:(List Int)) (lq15:(List Int)):Nat→Int→(List Zah)→Option ((List Zah))
 | 0,_,_=>none
 | n_19+1,t14_20,l_21=>bif decide (t14_20<(cq1.length:Int)) then bif decide ((0:Int)≤t14_20) then cq1[t14_20.toNat]?.bind fun y_25=>bif decide ((0:Int)≤t14_20) then lq15[t14_20.toNat]?.bind fun y_26=>lq15[t14_20.toNat]?.bind fun y_27=>bif decide (((l_21.length)+1)≤LIM) then (ZbP F cq1 lq15 n_19 (wrap .i64 (t14_20+(1:Int))) (l_21++((Zah.mk y_25 y_27)::[]))) else none else none else none else some l_21
def Zcp (F:Nat) (c:Int) (cq1:(List Int)) (cq2:Int) (cq3:Int) (cq4:Int) (cq5:Int) (cq6:Int) (cq7:Int) (cq8:(List Zaa)) (cq9:(List UInt8)) (cq10:Int) (cq11:Int) (cq12:Int) (l:(List Int)) (lq14:(List Int)) (lq15:(List Int)) (lq16:(List Zad)):Option (Int×(List Int)×Int×Int×Int×Int×Int×Int×(List Zaa)×(List UInt8)×Int×Int×Int) :=
 ((ZbP F cq1 lq15 F (0:Int) [])).bind fun l_12=>(ZeG F cq1 l_12).bind fun y_28=>(Zgv F (Zai.mk cq6 cq7 cq8) y_28).bind fun y_29=>Option.bind (bif y_29.2 then bif decide (cq10<y_28) then some (y_29.1==cq2) else some false else some false) fun t68_30=>bif t68_30 then some (c,cq1,cq2,cq3,cq4,cq5,cq6,cq7,cq8,cq9,y_28,cq11,cq12) else some (c,cq1,cq2,cq3,cq4,cq5,cq6,cq7,cq8,cq9,cq10,cq11,cq12)
def ZdJ (F:Nat) (c:Int) (cq1:(List Int)) (cq2:Int) (cq3:Int) (cq4:Int) (cq5:Int) (cq6:Int) (cq7:Int) (cq8:(List Zaa)) (cq9:(List UInt8)) (cq10:Int) (cq11:Int) (cq12:Int) (l:(List Int)) (lq14:(List Int)) (lq15:(List Int)) (lq16:(List Zad)):Option (Int×(List Int)×Int×Int×Int×Int×Int×Int×(List Zaa)×(List UInt8)×Int×Int×Int×(List Int)×(List Int)) :=
 (Zby F c cq1 cq2 cq3 (2:Int) c cq6 cq7 cq8 cq9 cq10 (2:Int) cq12 [] lq14 lq15 lq16).bind fun y_0=>(Zbr F ((wrap .i64 (y_0+(1:Int)))::[]) (List.length (List.map (cInt .i64) cq1):Int)).bind fun y_1=>bif decide ((cq1.length:Int)≤(cq1.length:Int)) then bif decide ((cq1.length:Int)≤(@Nat.cast Int instNatCastInt LIM)) then (Zey F (Zai.mk cq6 cq7 cq8) (Zaa.mk cq2 ([]:List UInt8))).bind fun y_2=>Option.bind (bif y_2.2 then some (y_2.1.Base,y_2.1.BaseTerm,y_2.1.Entries) else some (cq6,cq7,cq8)) fun (c_3,c_4,c_5)=>(Zcc F c cq1 cq2 cq3 (2:Int) c c_3 c_4 c_5 cq9 cq10 (2:Int) cq12 [] y_1 (List.replicate (Int.toNat (List.length (List.map (cInt .i64) cq1):Int)) (0:Int)) lq16).bind fun y_6=>(Zcp F c cq1 cq2 cq3 (2:Int) c c_3 c_4 c_5 cq9 cq10 (2:Int) cq12 [] y_6.1 y_6.2 lq16).bind fun y_7=>(Zbp F y_7.1 y_7.2.1 y_7.2.2.1 y_7.2.2.2.1 y_7.2.2.2.2.1 y_7.2.2.2.2.2.1 y_7.2.2.2.2.2.2.1 y_7.2.2.2.2.2.2.2.1 y_7.2.2.2.2.2.2.2.2.1 y_7.2.2.2.2.2.2.2.2.2.1 y_7.2.2.2.2.2.2.2.2.2.2.1 y_7.2.2.2.2.2.2.2.2.2.2.2.1 y_7.2.2.2.2.2.2.2.2.2.2.2.2 [] y_6.1 y_6.2 lq16).bind fun y_8=>some (y_7.1,y_7.2.1,y_7.2.2.1,y_7.2.2.2.1,y_7.2.2.2.2.1,y_7.2.2.2.2.2.1,y_7.2.2.2.2.2.2.1,y_7.2.2.2.2.2.2.2.1,y_7.2.2.2.2.2.2.2.2.1,y_7.2.2.2.2.2.2.2.2.2.1,y_7.2.2.2.2.2.2.2.2.2.2.1,y_7.2.2.2.2.2.2.2.2.2.2.2.1,y_7.2.2.2.2.2.2.2.2.2.2.2.2,y_6.1,y_6.2) else none else none
def ZaF (F:Nat) (c:Int) (cq2:(List Int)):Nat→Int→Option (Unit)
 | 0,_=>none
 | n_10+1,t107_11=>bif decide (t107_11<(cq2.length:Int)) then bif decide ((0:Int)≤t107_11) then cq2[t107_11.toNat]?.bind fun y_13=>bif y_13 != c then none else (ZaF F c cq2 n_10 (wrap .i64 (t107_11+(1:Int)))) else none else some ()
def Zba (F:Nat) (draw:Int) (c:Int) (cq2:(List Int)) (cq3:Int) (cq4:Int) (cq5:Int) (cq6:Int) (cq7:Int) (cq8:Int) (cq9:(List Zaa)) (cq10:(List UInt8)) (cq11:Int) (cq12:Int) (cq13:Int) (l:(List Int)) (lq15:(List Int)) (lq16:(List Int)) (lq17:(List Zad)):Option ((Int×(List Int)×Int×Int×Int×Int×Int×Int×(List Zaa)×(List UInt8)×Int×Int×Int) ⊕ ((Int×(List Int)×Int×Int×Int×Int×Int×Int×(List Zaa)×(List UInt8)×Int×Int×Int×(List Int)×(List Int)) ⊕ (Int×(List Int)×Int×Int×Int×Int×Int×Int×(List Zaa)×(List UInt8)×Int×Int×Int×Int))) :=
 bif decide ((1099511627776:Int)≤cq3) then some (Sum.inl (c,cq2,cq3,cq4,cq5,cq6,cq7,cq8,cq9,cq10,cq11,cq12,cq13)) else Option.bind (bif decide (draw<(0:Int)) then some (wrap .i64 ((0:Int) - (wrap .i64 (draw+(1:Int))))) else some draw) fun draw_0=>(Zf2 F cq2 (c::[])).bind fun y_1=>bif y_1 then (ZdJ F c cq2 (wrap .i64 (cq3+(1:Int))) c (1:Int) (0:Int) cq7 cq8 cq9 cq10 cq11 (wrap .i64 ((10:Int)+(@Int.tmod draw_0 (10:Int)))) (wrap .i64 ((10:Int)+(@Int.tmod draw_0 (10:Int)))) (c::[]) [] [] lq17).bind fun y_2=>some (Sum.inr (Sum.inl (y_2.1,y_2.2.1,y_2.2.2.1,y_2.2.2.2.1,y_2.2.2.2.2.1,y_2.2.2.2.2.2.1,y_2.2.2.2.2.2.2.1,y_2.2.2.2.2.2.2.2.1,y_2.2.2.2.2.2.2.2.2.1,y_2.2.2.2.2.2.2.2.2.2.1,y_2.2.2.2.2.2.2.2.2.2.2.1,y_2.2.2.2.2.2.2.2.2.2.2.2.1,y_2.2.2.2.2.2.2.2.2.2.2.2.2.1,y_2.2.2.2.2.2.2.2.2.2.2.2.2.2.1,y_2.2.2.2.2.2.2.2.2.2.2.2.2.2.2))) else (Zea F (Zai.mk cq7 cq8 cq9)).bind fun y_3=>((ZaF F c cq2 F (0:Int))).bind fun _=>some (Sum.inr (Sum.inr (c,cq2,(wrap .i64 (cq3+(1:Int))),c,(1:Int),(0:Int),cq7,cq8,cq9,cq10,cq11,(wrap .i64 ((10:Int)+(@Int.tmod draw_0 (10:Int)))),(wrap .i64 ((10:Int)+(@Int.tmod draw_0 (10:Int)))),c)))
def Zhi (F:Nat) (r_:Zaf) (draw:Int):Option (Int×(List Int)×Int×Int×Int×Int×Int×Int×(List Zaa)×(List UInt8)×Int×Int×Int×(List Int)×(List Int)×(List Int)×(List Zad)) :=
 (ZfO F r_).bind fun y_0=>(Zeb F r_).bind fun y_1=>bif !y_1 then some (y_0.1,y_0.2.1,y_0.2.2.1,y_0.2.2.2.1,y_0.2.2.2.2.1,y_0.2.2.2.2.2.1,y_0.2.2.2.2.2.2.1,y_0.2.2.2.2.2.2.2.1,y_0.2.2.2.2.2.2.2.2.1,y_0.2.2.2.2.2.2.2.2.2.1,y_0.2.2.2.2.2.2.2.2.2.2.1,y_0.2.2.2.2.2.2.2.2.2.2.2.1,y_0.2.2.2.2.2.2.2.2.2.2.2.2.1,y_0.2.2.2.2.2.2.2.2.2.2.2.2.2.1,y_0.2.2.2.2.2.2.2.2.2.2.2.2.2.2.1,y_0.2.2.2.2.2.2.2.2.2.2.2.2.2.2.2.1,[]) else Option.bind (bif decide ((0:Int)<(if ((0:Int) > (wrap .i64 (y_0.2.2.2.2.2.2.2.2.2.2.2.1 - (1:Int)))) then (0:Int) else (wrap .i64 (y_0.2.2.2.2.2.2.2.2.2.2.2.1 - (1:Int))))) then some (y_0.1,y_0.2.1,y_0.2.2.1,y_0.2.2.2.1,y_0.2.2.2.2.1,y_0.2.2.2.2.2.1,y_0.2.2.2.2.2.2.1,y_0.2.2.2.2.2.2.2.1,y_0.2.2.2.2.2.2.2.2.1,y_0.2.2.2.2.2.2.2.2.2.1,y_0.2.2.2.2.2.2.2.2.2.2.1,(if ((0:Int) > (wrap .i64 (y_0.2.2.2.2.2.2.2.2.2.2.2.1 - (1:Int)))) then (0:Int) else (wrap .i64 (y_0.2.2.2.2.2.2.2.2.2.2.2.1 - (1:Int)))),y_0.2.2.2.2.2.2.2.2.2.2.2.2.1,y_0.2.2.2.2.2.2.2.2.2.2.2.2.2.1,y_0.2.2.2.2.2.2.2.2.2.2.2.2.2.2.1,y_0.2.2.2.2.2.2.2.2.2.2.2.2.2.2.2.1) else bif y_0.2.2.2.2.1==(2:Int) then (Zbp F y_0.1 y_0.2.1 y_0.2.2.1 y_0.2.2.2.1 y_0.2.2.2.2.1 y_0.2.2.2.2.2.1 y_0.2.2.2.2.2.2.1 y_0.2.2.2.2.2.2.2.1 y_0.2.2.2.2.2.2.2.2.1 y_0.2.2.2.2.2.2.2.2.2.1 y_0.2.2.2.2.2.2.2.2.2.2.1 (2:Int) y_0.2.2.2.2.2.2.2.2.2.2.2.2.1 y_0.2.2.2.2.2.2.2.2.2.2.2.2.2.1 y_0.2.2.2.2.2.2.2.2.2.2.2.2.2.2.1 y_0.2.2.2.2.2.2.2.2.2.2.2.2.2.2.2.1 y_0.2.2.2.2.2.2.2.2.2.2.2.2.2.2.2.2).bind fun y_20=>some (y_0.1,y_0.2.1,y_0.2.2.1,y_0.2.2.2.1,y_0.2.2.2.2.1,y_0.2.2.2.2.2.1,y_0.2.2.2.2.2.2.1,y_0.2.2.2.2.2.2.2.1,y_0.2.2.2.2.2.2.2.2.1,y_0.2.2.2.2.2.2.2.2.2.1,y_0.2.2.2.2.2.2.2.2.2.2.1,(2:Int),y_0.2.2.2.2.2.2.2.2.2.2.2.2.1,y_0.2.2.2.2.2.2.2.2.2.2.2.2.2.1,y_0.2.2.2.2.2.2.2.2.2.2.2.2.2.2.1,y_0.2.2.2.2.2.2.2.2.2.2.2.2.2.2.2.1) else (Zba F draw y_0.1 y_0.2.1 y_0.2.2.1 y_0.2.2.2.1 y_0.2.2.2.2.1 y_0.2.2.2.2.2.1 y_0.2.2.2.2.2.2.1 y_0.2.2.2.2.2.2.2.1 y_0.2.2.2.2.2.2.2.2.1 y_0.2.2.2.2.2.2.2.2.2.1 y_0.2.2.2.2.2.2.2.2.2.2.1 (if ((0:Int) > (wrap .i64 (y_0.2.2.2.2.2.2.2.2.2.2.2.1 - (1:Int)))) then (0:Int) else (wrap .i64 (y_0.2.2.2.2.2.2.2.2.2.2.2.1 - (1:Int)))) y_0.2.2.2.2.2.2.2.2.2.2.2.2.1 y_0.2.2.2.2.2.2.2.2.2.2.2.2.2.1 y_0.2.2.2.2.2.2.2.2.2.2.2.2.2.2.1 y_0.2.2.2.2.2.2.2.2.2.2.2.2.2.2.2.1 y_0.2.2.2.2.2.2.2.2.2.2.2.2.2.2.2.2).bind fun y_21=>(Sum.elim (fun y_21=>( some (y_21.1,y_21.2.1,y_21.2.2.1,y_21.2.2.2.1,y_21.2.2.2.2.1,y_21.2.2.2.2.2.1,y_21.2.2.2.2.2.2.1,y_21.2.2.2.2.2.2.2.1,y_21.2.2.2.2.2.2.2.2.1,y_21.2.2.2.2.2.2.2.2.2.1,y_21.2.2.2.2.2.2.2.2.2.2.1,y_21.2.2.2.2.2.2.2.2.2.2.2.1,y_21.2.2.2.2.2.2.2.2.2.2.2.2,y_0.2.2.2.2.2.2.2.2.2.2.2.2.2.1,y_0.2.2.2.2.2.2.2.2.2.2.2.2.2.2.1,y_0.2.2.2.2.2.2.2.2.2.2.2.2.2.2.2.1) )) (fun y_21=>( (Sum.elim (fun y_21=>( some (y_21.1,y_21.2.1,y_21.2.2.1,y_21.2.2.2.1,y_21.2.2.2.2.1,y_21.2.2.2.2.2.1,y_21.2.2.2.2.2.2.1,y_21.2.2.2.2.2.2.2.1,y_21.2.2.2.2.2.2.2.2.1,y_21.2.2.2.2.2.2.2.2.2.1,y_21.2.2.2.2.2.2.2.2.2.2.1,y_21.2.2.2.2.2.2.2.2.2.2.2.1,y_21.2.2.2.2.2.2.2.2.2.2.2.2.1,[],y_21.2.2.2.2.2.2.2.2.2.2.2.2.2.1,y_21.2.2.2.2.2.2.2.2.2.2.2.2.2.2) )) (fun y_21=>( some (y_21.1,y_21.2.1,y_21.2.2.1,y_21.2.2.2.1,y_21.2.2.2.2.1,y_21.2.2.2.2.2.1,y_21.2.2.2.2.2.2.1,y_21.2.2.2.2.2.2.2.1,y_21.2.2.2.2.2.2.2.2.1,y_21.2.2.2.2.2.2.2.2.2.1,y_21.2.2.2.2.2.2.2.2.2.2.1,y_21.2.2.2.2.2.2.2.2.2.2.2.1,y_21.2.2.2.2.2.2.2.2.2.2.2.2.1,(y_21.2.2.2.2.2.2.2.2.2.2.2.2.2::[]),[],[]) )) y_21) )) y_21)) fun (c_4,c_5,c_6,c_7,c_8,c_9,c_10,c_11,c_12,c_13,c_14,c_15,c_16,l_17,l_18,l_19)=>some (c_4,c_5,c_6,c_7,c_8,c_9,c_10,c_11,c_12,c_13,c_14,c_15,c_16,l_17,l_18,l_19,y_0.2.2.2.2.2.2.2.2.2.2.2.2.2.2.2.2)
def Zbe (F:Nat) (s1:(List Int)) (s2:(List Int)):Nat→Int→Option (((Bool) ⊕ Unit))
 | 0,_=>none
 | n_12+1,t13_13=>bif decide (t13_13<(s1.length:Int)) then bif decide ((0:Int)≤t13_13) then s1[t13_13.toNat]?.bind fun y_16=>bif decide ((0:Int)≤t13_13) then s2[t13_13.toNat]?.bind fun y_17=>bif y_16 != y_17 then some (Sum.inl false) else (Zbe F s1 s2 n_12 (wrap .i64 (t13_13+(1:Int)))) else none else none else some (Sum.inr ())
def Zb8 (F:Nat) (s1:(List Int)) (s2:(List Int)):Option Bool :=
 bif (s1.length:Int) != (s2.length:Int) then some false else Option.bind (
 (Zbe F s1 s2 F (0:Int))
 ) fun o0=>Sum.elim (fun r=>some r) (fun _=>(
 some true
 )) o0
def ZcQ (F:Nat) (n:Int):Option Zac :=
 some (Zac.mk (1:Int) n ([]:List UInt8))
def Zc4 (F:Nat) (kind:Int) (fields:(List Zac)):Option (List Int) :=
 (ZcQ F kind).bind fun y_0=>bif decide ((1+(fields.length))≤LIM) then (ZcX F ((y_0::[])++fields)).bind fun y_1=>some y_1.2 else none
def ZfN (F:Nat) (s:(List UInt8)):Option Zac :=
 some (Zac.mk (3:Int) (0:Int) s)
def ZdL (F:Nat) (from_:Zaf) (to_:Zaf):Nat→Int→Option (Int)
 | 0,_=>none
 | n_27+1,same_28=>Option.bind (bif decide (same_28<(from_.Trail.Entries.length:Int)) then bif decide (same_28<(to_.Trail.Entries.length:Int)) then bif decide ((0:Int)≤same_28) then ((from_.Trail.Entries)[same_28.toNat]?).bind fun y_32=>bif decide ((0:Int)≤same_28) then ((to_.Trail.Entries)[same_28.toNat]?).bind fun y_33=>some ((y_32.Term==y_33.Term) && ((y_32.Data==y_33.Data) && true)) else none else none else some false else some false) fun t106_31=>bif t106_31 then (ZdL F from_ to_ n_27 (wrap .i64 (same_28+(1:Int)))) else some same_28
def ZdK (F:Nat) (from_:Zaf) (to_:Zaf) (same_23:Int):Nat→Int→(List (List Int))→Option ((List (List Int)))
 | 0,_,_=>none
 | n_65+1,t115_66,l_67=>bif decide (t115_66<(List.length (@cut (@List AV) (some (Operand.tmp 112)) none (List.map Zaa.c to_.Trail.Entries) same_23.toNat (to_.Trail.Entries.length)):Int)) then bif decide ((0:Int)≤t115_66) then (((List.drop same_23.toNat to_.Trail.Entries))[t115_66.toNat]?).bind fun y_73=>(ZcQ F (wrap .i64 ((wrap .i64 (from_.Trail.Base+(wrap .i64 (same_23+t115_66))))+(1:Int)))).bind fun y_74=>(ZcQ F y_73.Term).bind fun y_75=>(ZfN F y_73.Data).bind fun y_76=>(Zc4 F (2:Int) (y_74::(y_75::(y_76::[])))).bind fun y_77=>bif decide (((l_67.length)+1)≤LIM) then (ZdK F from_ to_ same_23 n_65 (wrap .i64 (t115_66+(1:Int))) (l_67++(y_77::[]))) else none else none else some l_67
def ZfZ (F:Nat) (from_:Zaf) (to_:Zaf):Option (List (List Int)) :=
 Option.bind (bif from_.Term != to_.Term then some true else some (from_.Vote != to_.Vote)) fun t21_0=>Option.bind (bif t21_0 then (ZcQ F to_.Term).bind fun y_5=>(ZcQ F to_.Vote).bind fun y_6=>(Zc4 F (1:Int) (y_5::(y_6::[]))).bind fun y_7=>bif decide (((0:Nat)+1)≤LIM) then some ([]++(y_7::[])) else none else some []) fun l_4=>Option.bind (bif from_.Trail.Base != to_.Trail.Base then some true else bif from_.Trail.BaseTerm != to_.Trail.BaseTerm then some true else some (!(from_.Snap==to_.Snap))) fun t55_8=>bif t55_8 then (ZcQ F to_.Trail.Base).bind fun y_13=>(ZcQ F to_.Trail.BaseTerm).bind fun y_14=>(ZfN F to_.Snap).bind fun y_15=>(Zc4 F (3:Int) (y_13::(y_14::(y_15::[])))).bind fun y_16=>bif decide (((l_4.length)+1)≤LIM) then none else none else ((ZdL F from_ to_ F (0:Int))).bind fun same_23=>bif decide ((0:Int)≤same_23) then bif decide (same_23.toNat≤(to_.Trail.Entries.length)) then bif decide ((to_.Trail.Entries.length)≤(to_.Trail.Entries.length)) then ((ZdK F from_ to_ same_23 F (0:Int) l_4)).bind fun l_54=>Option.bind (bif same_23==(to_.Trail.Entries.length:Int) then some (decide (same_23<(List.length (List.map Zaa.c from_.Trail.Entries):Int))) else some false) fun t152_78=>Option.bind (bif t152_78 then (ZcQ F (wrap .i64 (from_.Trail.Base+same_23))).bind fun y_82=>(Zc4 F (4:Int) (y_82::[])).bind fun y_83=>bif decide (((l_54.length)+1)≤LIM) then some (l_54++(y_83::[])) else none else some l_54) fun l_81=>some l_81 else none else none else none
def ZdI (F:Nat) (rec:(List Int)) (c:(List UInt8)) (cq2:Int) (cq3:Int) (cq4:Int) (fs:(List ((List UInt8)×(List Int)))) (l:(List Zab)):Option (Int×(List UInt8)×Int×Int×Int×(List ((List UInt8)×(List Int)))×(List Zab)) :=
 (ZfL F rec).bind fun y_0=>bif y_0.2 != (0:Int) then some (y_0.2,c,cq2,cq3,cq4,fs,l) else (Zcf F c y_0.1 cq4 fs l).bind fun y_1=>bif y_1.1 != (0:Int) then some ((3:Int),c,cq2,cq3,y_1.2.1,y_1.2.2.1,y_1.2.2.2) else some ((0:Int),c,cq2,(wrap .i64 (cq3+(1:Int))),y_1.2.1,y_1.2.2.1,y_1.2.2.2)
def Zbt (F:Nat) (c:Int) (cq2:(List Int)) (cq3:Int) (cq4:Int) (cq5:Int) (cq6:Int) (cq7:Int) (cq8:Int) (cq9:(List Zaa)) (cq10:(List UInt8)) (cq11:Int) (cq12:Int) (cq13:Int) (cq14:(List Int)) (cq15:(List Int)) (cq16:(List Int)) (y_5:(List (List Int))):Nat→Int→(List UInt8)→Int→Int→Int→(List ((List UInt8)×(List Int)))→(List Zab)→Option ((((Int×Int×(List Int)×Int×Int×Int×Int×Int×Int×(List Zaa)×(List UInt8)×Int×Int×Int×(List Int)×(List Int)×(List Int)×(List UInt8)×Int×Int×Int×(List ((List UInt8)×(List Int)))×(List Zab))) ⊕ ((List UInt8)×Int×Int×Int×(List ((List UInt8)×(List Int)))×(List Zab))))
 | 0,_,_,_,_,_,_,_=>none
 | n_24+1,t49_25,c_26,c_27,c_28,c_29,fs_30,l_31=>bif decide (t49_25<(y_5.length:Int)) then bif decide ((0:Int)≤t49_25) then y_5[t49_25.toNat]?.bind fun y_34=>(ZdI F y_34 c_26 c_27 c_28 c_29 fs_30 l_31).bind fun y_35=>bif y_35.1 != (0:Int) then some (Sum.inl ((3:Int),c,cq2,cq3,cq4,cq5,cq6,cq7,cq8,cq9,cq10,cq11,cq12,cq13,cq14,cq15,cq16,y_35.2.1,y_35.2.2.1,y_35.2.2.2.1,y_35.2.2.2.2.1,y_35.2.2.2.2.2.1,y_35.2.2.2.2.2.2)) else (Zbt F c cq2 cq3 cq4 cq5 cq6 cq7 cq8 cq9 cq10 cq11 cq12 cq13 cq14 cq15 cq16 y_5 n_24 (wrap .i64 (t49_25+(1:Int))) y_35.2.1 y_35.2.2.1 y_35.2.2.2.1 y_35.2.2.2.2.1 y_35.2.2.2.2.2.1 y_35.2.2.2.2.2.2) else none else some (Sum.inr (c_26,c_27,c_28,c_29,fs_30,l_31))
def ZcL (F:Nat) (r_:Zaf) (c:Int) (cq2:(List Int)) (cq3:Int) (cq4:Int) (cq5:Int) (cq6:Int) (cq7:Int) (cq8:Int) (cq9:(List Zaa)) (cq10:(List UInt8)) (cq11:Int) (cq12:Int) (cq13:Int) (cq14:(List Int)) (cq15:(List Int)) (cq16:(List Int)) (cq17:(List UInt8)) (cq18:Int) (cq19:Int) (cq20:Int) (fs:(List ((List UInt8)×(List Int)))) (l:(List Zab)):Option (Int×Int×(List Int)×Int×Int×Int×Int×Int×Int×(List Zaa)×(List UInt8)×Int×Int×Int×(List Int)×(List Int)×(List Int)×(List UInt8)×Int×Int×Int×(List ((List UInt8)×(List Int)))×(List Zab)) :=
 Option.bind ((Zeb F r_).bind fun y_3=>bif !y_3 then some true else bif r_.Id != c then some true else (Zb8 F r_.Conf cq2).bind fun y_4=>some (!y_4)) fun t41_2=>bif t41_2 then some ((4:Int),c,cq2,cq3,cq4,cq5,cq6,cq7,cq8,cq9,cq10,cq11,cq12,cq13,cq14,cq15,cq16,cq17,cq18,cq19,cq20,fs,l) else (ZfZ F (Zaf.mk c cq2 cq3 cq4 cq5 cq6 (Zai.mk cq7 cq8 cq9) cq10 cq11 cq12 cq13 cq14 cq15 cq16) r_).bind fun y_5=>Option.bind (
 (Zbt F c cq2 cq3 cq4 cq5 cq6 cq7 cq8 cq9 cq10 cq11 cq12 cq13 cq14 cq15 cq16 y_5 F (0:Int) cq17 cq18 cq19 cq20 fs l)
 ) fun o1=>Sum.elim (fun r=>some r) (fun (c_14,c_15,c_16,c_17,fs_18,l_19)=>(
 (Option.bind (ZdO F r_) fun y_36=>(
 some ((0:Int),y_36.Id,y_36.Conf,y_36.Term,y_36.Vote,y_36.Role,y_36.Leader,y_36.Trail.Base,y_36.Trail.BaseTerm,y_36.Trail.Entries,y_36.Snap,y_36.Commit,y_36.Left,y_36.Wait,y_36.Votes,y_36.Next,y_36.Match,c_14,c_15,c_16,c_17,fs_18,l_19)
 ))
 )) o1
def Zeu (F:Nat) (c:(List UInt8)) (cq1:Int) (cq2:Int) (cq3:Int) (fs:(List ((List UInt8)×(List Int)))) (l:(List Zab)):Option (Int×Int×(List Zab)) :=
 (ZcF F c cq3 fs l).bind fun y_0=>some (y_0.1,y_0.2.1,y_0.2.2)
def ZcZ (F:Nat) (c:Int) (cq1:(List Int)) (cq2:Int) (cq3:Int) (cq4:Int) (cq5:Int) (cq6:Int) (cq7:Int) (cq8:(List Zaa)) (cq9:(List UInt8)) (cq10:Int) (cq11:Int) (cq12:Int) (cq13:(List Int)) (cq14:(List Int)) (cq15:(List Int)) (cq16:(List UInt8)) (cq17:Int) (cq18:Int) (cq19:Int) (fs:(List ((List UInt8)×(List Int)))) (l:(List Zab)):Option (Int×Int×(List Zab)) :=
 (Zeu F cq16 cq17 cq18 cq19 fs l).bind fun y_0=>some (y_0.1,y_0.2.1,y_0.2.2)
def ZbN (F:Nat) (n:Int):Option Zac :=
 some (Zac.mk (1:Int) n ([]:List UInt8))
def Zec (F:Nat) (s:(List UInt8)):Option Zac :=
 some (Zac.mk (3:Int) (0:Int) s)
def Zca (F:Nat) (m:Zad):Nat→Int→(List Zac)→Option ((List Zac))
 | 0,_,_=>none
 | n_29+1,t46_30,l_31=>bif decide (t46_30<(m.Entries.length:Int)) then bif decide ((0:Int)≤t46_30) then ((m.Entries)[t46_30.toNat]?).bind fun y_35=>(ZbN F y_35.Term).bind fun y_36=>(Zec F y_35.Data).bind fun y_37=>bif decide (((l_31.length)+2)≤LIM) then (Zca F m n_29 (wrap .i64 (t46_30+(1:Int))) (l_31++(y_36::(y_37::[])))) else none else none else some l_31
def ZdF (F:Nat) (m:Zad):Option (List UInt8) :=
 bif decide ((127:Int)<(m.Entries.length:Int)) then some ([]:List UInt8) else Option.bind (bif m.Yes then some (1:Int) else some (0:Int)) fun yes_0=>(ZbN F m.Kind).bind fun y_1=>(ZbN F m.From).bind fun y_2=>(ZbN F m.To).bind fun y_3=>(ZbN F m.Term).bind fun y_4=>(ZbN F m.Index).bind fun y_5=>(ZbN F m.LogTerm).bind fun y_6=>(ZbN F m.Commit).bind fun y_7=>(ZbN F yes_0).bind fun y_8=>(ZbN F (List.length (List.map Zaa.c m.Entries):Int)).bind fun y_9=>((Zca F m F (0:Int) (y_1::(y_2::(y_3::(y_4::(y_5::(y_6::(y_7::(y_8::(y_9::[]))))))))))).bind fun l_22=>(Zec F m.Data).bind fun y_38=>bif decide (((l_22.length)+1)≤LIM) then (ZcX F (l_22++(y_38::[]))).bind fun y_39=>bif y_39.1 != (0:Int) then some ([]:List UInt8) else bif ZdY y_39.2 then some (@toBytes y_39.2) else none else none
def ZcG (F:Nat) (sum:Int) (tb:Bool) (l:(List Int)):Option (Int×Bool) :=
 bif decide (l.length≤LIM) then some (crcM sum l,true) else none
def Zc1 (F:Nat) (at_:Int) (e:Zaa) (c:(List Int)) (cq3:Bool) (gs:(List (Int×group_node))) (gk:Int) (cq6:Int) (tb:Bool) (l:(List Zaa)) (lq9:(List Int)) (lq10:(List Int)) (lq11:(List Zah)) (cq12:Int) (cq13:(List Int)) (cq14:Int) (cq15:Int) (cq16:Int) (cq17:Int) (cq18:Int) (cq19:Int) (cq20:(List Zaa)) (cq21:(List UInt8)) (cq22:Int) (cq23:Int) (cq24:Int) (cq25:(List Int)) (cq26:(List Int)) (cq27:(List Int)) (cq28:Int) (cq29:Int) (lq30:(List Zag)) (m:(List (Zae×Int))) (cq32:Int) (cq33:Int) (cq34:(List Int)) (cq35:Int) (cq36:Int) (cq37:Int) (cq38:Int) (cq39:Int) (cq40:Int) (cq41:(List Zaa)) (cq42:(List UInt8)) (cq43:Int) (cq44:Int) (cq45:Int) (cq46:(List Int)) (cq47:(List Int)) (cq48:(List Int)) (fs:(List ((List UInt8)×(List Int)))) (lq50:(List Zab)) (cq51:(List UInt8)) (cq52:Int) (cq53:Int):Option ((List Int)×Bool×Int×Bool×Int×(List Zaa)×(List Int)×(List Int)×(List Zah)×(List Zag)×(List Zab)) :=
 bif decide (at_≤(l.length:Int)) then Option.bind (bif cq3 then some true else bif decide ((0:Int)≤(wrap .i64 (at_ - (1:Int)))) then l[(Int.toNat (wrap .i64 (at_ - (1:Int))))]?.bind fun y_3=>l[(Int.toNat (wrap .i64 (at_ - (1:Int))))]?.bind fun y_4=>some (!((y_4.Term==e.Term) && ((y_4.Data==e.Data) && true))) else none) fun c_2=>some (c,c_2,cq6,tb,cq32,l,lq9,lq10,lq11,lq30,lq50) else bif at_==(wrap .i64 ((l.length:Int)+(1:Int))) then lq9[(Int.toNat (List.length (List.map Zaa.c l):Int))]?.bind fun y_5=>lq9[(Int.toNat (List.length (List.map Zaa.c l):Int))]?.bind fun y_6=>Option.bind (bif !(e.Data==([]:List UInt8)) then some (wrap .i64 (y_6+(1:Int))) else some y_6) fun count_7=>bif decide (((l.length)+1)≤LIM) then bif decide (((lq9.length)+1)≤LIM) then lq10[(Int.toNat (List.length (List.map Zaa.c l):Int))]?.bind fun y_8=>lq10[(Int.toNat (List.length (List.map Zaa.c l):Int))]?.bind fun y_9=>bif decide ((e.Data.length)≤LIM) then (ZcG F y_9 tb (List.map (fun (b_13:UInt8)=>(((UInt8.toNat b_13):Nat):Int)) e.Data)).bind fun y_10=>bif decide (((lq10.length)+1)≤LIM) then some (c,cq3,cq6,y_10.2,cq32,(l++(e::[])),(lq9++(count_7::[])),(lq10++(y_10.1::[])),lq11,lq30,lq50) else none else none else none else none else some (c,true,cq6,tb,cq32,l,lq9,lq10,lq11,lq30,lq50)
def Zbv (F:Nat) (cq3:Int) (cq4:(List Int)) (cq5:Int) (cq6:Int) (cq7:Int) (cq8:Int) (cq9:Int) (cq10:Int) (cq11:(List Zaa)) (cq12:(List UInt8)) (cq13:Int) (cq14:Int) (cq15:Int) (cq16:(List Int)) (cq17:(List Int)) (cq18:(List Int)) (gs:(List (Int×group_node))) (gk:Int) (cq30:Int) (cq31:(List Int)) (cq32:Int) (cq33:Int) (cq34:Int) (cq35:Int) (cq36:Int) (cq37:Int) (cq38:(List Zaa)) (cq39:(List UInt8)) (cq40:Int) (cq41:Int) (cq42:Int) (cq43:(List Int)) (cq44:(List Int)) (cq45:(List Int)) (m:(List (Zae×Int))) (fs:(List ((List UInt8)×(List Int)))) (cq50:(List UInt8)) (cq51:Int) (cq52:Int):Nat→Int→(List Int)→Bool→Int→Int→Int→Bool→Int→(List Zaa)→(List Int)→(List Int)→(List Zah)→(List Zag)→(List Zab)→Option (((List Int)×Bool×Int×Int×Int×Bool×Int×(List Zaa)×(List Int)×(List Int)×(List Zah)×(List Zag)×(List Zab)))
 | 0,_,_,_,_,_,_,_,_,_,_,_,_,_,_=>none
 | n_57+1,at__58,c_59,c_60,c_61,c_62,c_63,tb_64,c_65,l_66,l_67,l_68,l_69,l_70,l_71=>bif decide (at__58≤cq13) then bif decide ((0:Int)≤(wrap .i64 ((wrap .i64 (at__58 - cq9)) - (1:Int)))) then cq11[(Int.toNat (wrap .i64 ((wrap .i64 (at__58 - cq9)) - (1:Int))))]?.bind fun y_76=>Option.bind (bif !(y_76.Data==([]:List UInt8)) then some (wrap .i64 (c_61+(1:Int))) else some c_61) fun c_77=>bif decide ((y_76.Data.length)≤LIM) then (ZcG F c_62 tb_64 (List.map (fun (b_14:UInt8)=>(((UInt8.toNat b_14):Nat):Int)) y_76.Data)).bind fun y_78=>(Zc1 F at__58 y_76 c_59 c_60 gs gk c_63 y_78.2 l_66 l_67 l_68 l_69 cq3 cq4 cq5 cq6 cq7 cq8 cq9 cq10 cq11 cq12 cq13 cq14 cq15 cq16 cq17 cq18 c_77 y_78.1 l_70 m c_65 cq30 cq31 cq32 cq33 cq34 cq35 cq36 cq37 cq38 cq39 cq40 cq41 cq42 cq43 cq44 cq45 fs l_71 cq50 cq51 cq52).bind fun y_79=>(Zbv F cq3 cq4 cq5 cq6 cq7 cq8 cq9 cq10 cq11 cq12 cq13 cq14 cq15 cq16 cq17 cq18 gs gk cq30 cq31 cq32 cq33 cq34 cq35 cq36 cq37 cq38 cq39 cq40 cq41 cq42 cq43 cq44 cq45 m fs cq50 cq51 cq52 n_57 (wrap .i64 (at__58+(1:Int))) y_79.1 y_79.2.1 c_77 y_78.1 y_79.2.2.1 y_79.2.2.2.1 y_79.2.2.2.2.1 y_79.2.2.2.2.2.1 y_79.2.2.2.2.2.2.1 y_79.2.2.2.2.2.2.2.1 y_79.2.2.2.2.2.2.2.2.1 y_79.2.2.2.2.2.2.2.2.2.1 y_79.2.2.2.2.2.2.2.2.2.2) else none else none else some (c_59,c_60,c_61,c_62,c_63,tb_64,c_65,l_66,l_67,l_68,l_69,l_70,l_71)
def ZcN (F:Nat) (from_:Int) (c:(List Int)) (cq2:Bool) (cq3:Int) (cq4:(List Int)) (cq5:Int) (cq6:Int) (cq7:Int) (cq8:Int) (cq9:Int) (cq10:Int) (cq11:(List Zaa)) (cq12:(List UInt8)) (cq13:Int) (cq14:Int) (cq15:Int) (cq16:(List Int)) (cq17:(List Int)) (cq18:(List Int)) (cq19:Int) (cq20:Int) (gs:(List (Int×group_node))) (gk:Int) (cq23:Int) (tb:Bool) (l:(List Zaa)) (lq26:(List Int)) (lq27:(List Int)) (lq28:(List Zah)) (cq29:Int) (cq30:Int) (cq31:(List Int)) (cq32:Int) (cq33:Int) (cq34:Int) (cq35:Int) (cq36:Int) (cq37:Int) (cq38:(List Zaa)) (cq39:(List UInt8)) (cq40:Int) (cq41:Int) (cq42:Int) (cq43:(List Int)) (cq44:(List Int)) (cq45:(List Int)) (lq46:(List Zag)) (m:(List (Zae×Int))) (fs:(List ((List UInt8)×(List Int)))) (lq49:(List Zab)) (cq50:(List UInt8)) (cq51:Int) (cq52:Int):Option ((List Int)×Bool×Int×(List Int)×Int×Int×Int×Int×Int×Int×(List Zaa)×(List UInt8)×Int×Int×Int×(List Int)×(List Int)×(List Int)×Int×Int×Int×Bool×Int×(List Zaa)×(List Int)×(List Int)×(List Zah)×(List Zag)×(List Zab)) :=
 Option.bind (bif decide (from_<cq9) then (Zc6 F cq12).bind fun y_10=>Option.bind (bif cq2 then some true else bif decide ((lq26.length:Int)≤cq9) then some true else bif decide ((0:Int)≤cq9) then lq26[cq9.toNat]?.bind fun y_16=>lq26[cq9.toNat]?.bind fun y_17=>bif y_17 != y_10.1 then some true else bif decide ((0:Int)≤cq9) then lq27[cq9.toNat]?.bind fun y_18=>lq27[cq9.toNat]?.bind fun y_19=>some (y_19 != y_10.2) else none else none) fun c_15=>some (cq9,c_15,y_10.1,y_10.2) else some (from_,cq2,cq19,cq20)) fun (from__6,c_7,c_8,c_9)=>((Zbv F cq3 cq4 cq5 cq6 cq7 cq8 cq9 cq10 cq11 cq12 cq13 cq14 cq15 cq16 cq17 cq18 gs gk cq30 cq31 cq32 cq33 cq34 cq35 cq36 cq37 cq38 cq39 cq40 cq41 cq42 cq43 cq44 cq45 m fs cq50 cq51 cq52 F (wrap .i64 (from__6+(1:Int))) c c_7 c_8 c_9 cq23 tb cq29 l lq26 lq27 lq28 lq46 lq49)).bind fun (c_36,c_37,c_38,c_39,c_40,tb_41,c_42,l_43,l_44,l_45,l_46,l_47,l_48)=>some (c_36,c_37,cq3,cq4,cq5,cq6,cq7,cq8,cq9,cq10,cq11,cq12,cq13,cq14,cq15,cq16,cq17,cq18,c_38,c_39,c_40,tb_41,c_42,l_43,l_44,l_45,l_46,l_47,l_48)
def ZaC (F:Nat) (s:(List Zah)) (v:Zah):Nat→Int→Option (((Int) ⊕ Unit))
 | 0,_=>none
 | n_6+1,t8_7=>bif decide (t8_7<(s.length:Int)) then bif decide ((0:Int)≤t8_7) then s[t8_7.toNat]?.bind fun y_9=>bif (v.Id==y_9.Id) && ((v.At==y_9.At) && true) then some (Sum.inl t8_7) else (ZaC F s v n_6 (wrap .i64 (t8_7+(1:Int)))) else none else some (Sum.inr ())
def Za9 (F:Nat) (s:(List Zah)) (v:Zah):Option Int :=
 Option.bind (
 (ZaC F s v F (0:Int))
 ) fun o0=>Sum.elim (fun r=>some r) (fun _=>(
 some (@Neg.neg Int Int.instNegInt (1:Int))
 )) o0
def ZaZ (F:Nat) (s:(List Zah)) (v:Zah):Option Bool :=
 (Za9 F s v).bind fun y_0=>some (decide ((0:Int)≤y_0))
def Zd1 (F:Nat) (c:(List UInt8)) (cq1:Int) (cq2:Int) (cq3:Int) (fs:(List ((List UInt8)×(List Int)))) (l:(List Zab)):Option Int :=
 some cq2
def ZcM (F:Nat) (c:Int) (cq1:(List Int)) (cq2:Int) (cq3:Int) (cq4:Int) (cq5:Int) (cq6:Int) (cq7:Int) (cq8:(List Zaa)) (cq9:(List UInt8)) (cq10:Int) (cq11:Int) (cq12:Int) (cq13:(List Int)) (cq14:(List Int)) (cq15:(List Int)) (cq16:(List UInt8)) (cq17:Int) (cq18:Int) (cq19:Int) (fs:(List ((List UInt8)×(List Int)))) (l:(List Zab)):Option Int :=
 (Zd1 F cq16 cq17 cq18 cq19 fs l).bind fun y_0=>some y_0
def Zcm (F:Nat) (out:(List Zad)):Nat→Option (Unit)
 | 0=>none
 | n_10+1=>bif decide ((0:Int)<(out.length:Int)) then out[(Int.toNat (0:Int))]?.bind fun y_13=>(ZdF F y_13).bind fun y_14=>none else some ()
def Zcd (F:Nat) (id:Int) (r_:Zaf) (out:(List Zad)) (a:Zcl) (c:(List Int)) (cq5:Bool) (gs:(List (Int×group_node))) (gk:Int) (cq8:Int) (tb:Bool) (l:(List Zaa)) (lq11:(List Int)) (lq12:(List Int)) (lq13:(List Zah)) (cq14:Int) (cq15:(List Int)) (cq16:Int) (cq17:Int) (cq18:Int) (cq19:Int) (cq20:Int) (cq21:Int) (cq22:(List Zaa)) (cq23:(List UInt8)) (cq24:Int) (cq25:Int) (cq26:Int) (cq27:(List Int)) (cq28:(List Int)) (cq29:(List Int)) (cq30:Int) (cq31:Int) (lq32:(List Zag)) (m:(List (Zae×Int))) (cq34:Int) (cq35:Int) (cq36:(List Int)) (cq37:Int) (cq38:Int) (cq39:Int) (cq40:Int) (cq41:Int) (cq42:Int) (cq43:(List Zaa)) (cq44:(List UInt8)) (cq45:Int) (cq46:Int) (cq47:Int) (cq48:(List Int)) (cq49:(List Int)) (cq50:(List Int)) (fs:(List ((List UInt8)×(List Int)))) (lq52:(List Zab)) (cq53:(List UInt8)) (cq54:Int) (cq55:Int):Option (Int×(List Int)×Bool×(List (Int×group_node))×Int×Bool×(List Zaa)×(List Int)×(List Int)×(List Zah)×(List Zag)) :=
 bif decide (id=gk) && Option.isSome (mget gk gs) then (ZcL F r_ cq35 cq36 cq37 cq38 cq39 cq40 cq41 cq42 cq43 cq44 cq45 cq46 cq47 cq48 cq49 cq50 cq53 cq54 cq55 cq34 fs lq52).bind fun y_0=>bif y_0.1 != (0:Int) then none else bif a.Fail then none else (ZcZ F y_0.2.1 y_0.2.2.1 y_0.2.2.2.1 y_0.2.2.2.2.1 y_0.2.2.2.2.2.1 y_0.2.2.2.2.2.2.1 y_0.2.2.2.2.2.2.2.1 y_0.2.2.2.2.2.2.2.2.1 y_0.2.2.2.2.2.2.2.2.2.1 y_0.2.2.2.2.2.2.2.2.2.2.1 y_0.2.2.2.2.2.2.2.2.2.2.2.1 y_0.2.2.2.2.2.2.2.2.2.2.2.2.1 y_0.2.2.2.2.2.2.2.2.2.2.2.2.2.1 y_0.2.2.2.2.2.2.2.2.2.2.2.2.2.2.1 y_0.2.2.2.2.2.2.2.2.2.2.2.2.2.2.2.1 y_0.2.2.2.2.2.2.2.2.2.2.2.2.2.2.2.2.1 y_0.2.2.2.2.2.2.2.2.2.2.2.2.2.2.2.2.2.1 y_0.2.2.2.2.2.2.2.2.2.2.2.2.2.2.2.2.2.2.1 y_0.2.2.2.2.2.2.2.2.2.2.2.2.2.2.2.2.2.2.2.1 y_0.2.2.2.2.2.2.2.2.2.2.2.2.2.2.2.2.2.2.2.2.1 y_0.2.2.2.2.2.2.2.2.2.2.2.2.2.2.2.2.2.2.2.2.2.1 y_0.2.2.2.2.2.2.2.2.2.2.2.2.2.2.2.2.2.2.2.2.2.2).bind fun y_1=>((Zcm F out F)).bind fun _=>(ZcN F cq24 c cq5 r_.Id r_.Conf r_.Term r_.Vote r_.Role r_.Leader r_.Trail.Base r_.Trail.BaseTerm r_.Trail.Entries r_.Snap r_.Commit r_.Left r_.Wait r_.Votes r_.Next r_.Match cq30 cq31 gs gk cq8 tb l lq11 lq12 lq13 y_1.2.1 y_0.2.1 y_0.2.2.1 y_0.2.2.2.1 y_0.2.2.2.2.1 y_0.2.2.2.2.2.1 y_0.2.2.2.2.2.2.1 y_0.2.2.2.2.2.2.2.1 y_0.2.2.2.2.2.2.2.2.1 y_0.2.2.2.2.2.2.2.2.2.1 y_0.2.2.2.2.2.2.2.2.2.2.1 y_0.2.2.2.2.2.2.2.2.2.2.2.1 y_0.2.2.2.2.2.2.2.2.2.2.2.2.1 y_0.2.2.2.2.2.2.2.2.2.2.2.2.2.1 y_0.2.2.2.2.2.2.2.2.2.2.2.2.2.2.1 y_0.2.2.2.2.2.2.2.2.2.2.2.2.2.2.2.1 y_0.2.2.2.2.2.2.2.2.2.2.2.2.2.2.2.2.1 lq32 m y_0.2.2.2.2.2.2.2.2.2.2.2.2.2.2.2.2.2.2.2.2.2.1 y_1.2.2 y_0.2.2.2.2.2.2.2.2.2.2.2.2.2.2.2.2.2.1 y_0.2.2.2.2.2.2.2.2.2.2.2.2.2.2.2.2.2.2.1 y_0.2.2.2.2.2.2.2.2.2.2.2.2.2.2.2.2.2.2.2.1).bind fun y_15=>Option.bind (bif r_.Role==(2:Int) then (ZaZ F y_15.2.2.2.2.2.2.2.2.2.2.2.2.2.2.2.2.2.2.2.2.2.2.2.2.2.2.1 (Zah.mk id r_.Term)).bind fun y_18=>some (!y_18) else some false) fun t90_17=>Option.bind (bif t90_17 then bif decide (((y_15.2.2.2.2.2.2.2.2.2.2.2.2.2.2.2.2.2.2.2.2.2.2.2.2.2.2.1.length)+1)≤LIM) then some (y_15.2.2.2.2.2.2.2.2.2.2.2.2.2.2.2.2.2.2.2.2.2.2.2.2.2.2.1++((Zah.mk id r_.Term)::[])) else none else some y_15.2.2.2.2.2.2.2.2.2.2.2.2.2.2.2.2.2.2.2.2.2.2.2.2.2.2.1) fun l_19=>(ZcM F y_0.2.1 y_0.2.2.1 y_0.2.2.2.1 y_0.2.2.2.2.1 y_0.2.2.2.2.2.1 y_0.2.2.2.2.2.2.1 y_0.2.2.2.2.2.2.2.1 y_0.2.2.2.2.2.2.2.2.1 y_0.2.2.2.2.2.2.2.2.2.1 y_0.2.2.2.2.2.2.2.2.2.2.1 y_0.2.2.2.2.2.2.2.2.2.2.2.1 y_0.2.2.2.2.2.2.2.2.2.2.2.2.1 y_0.2.2.2.2.2.2.2.2.2.2.2.2.2.1 y_0.2.2.2.2.2.2.2.2.2.2.2.2.2.2.1 y_0.2.2.2.2.2.2.2.2.2.2.2.2.2.2.2.1 y_0.2.2.2.2.2.2.2.2.2.2.2.2.2.2.2.2.1 y_0.2.2.2.2.2.2.2.2.2.2.2.2.2.2.2.2.2.1 y_0.2.2.2.2.2.2.2.2.2.2.2.2.2.2.2.2.2.2.1 y_0.2.2.2.2.2.2.2.2.2.2.2.2.2.2.2.2.2.2.2.1 y_15.2.2.2.2.2.2.2.2.2.2.2.2.2.2.2.2.2.2.2.2.2.2.1 y_0.2.2.2.2.2.2.2.2.2.2.2.2.2.2.2.2.2.2.2.2.2.1 y_15.2.2.2.2.2.2.2.2.2.2.2.2.2.2.2.2.2.2.2.2.2.2.2.2.2.2.2.2).bind fun y_21=>bif decide ((100:Int)<y_21) then none else bif Option.isSome (mget gk gs) then some ((0:Int),y_15.1,y_15.2.1,(mput gk (@Sum.inr group_nodeD group_nodeU (group_nodeU.mk y_0.2.2.2.2.2.2.2.2.2.2.2.2.2.2.2.2.2.2.2.2.2.1 y_15.2.2.2.2.2.2.2.2.2.2.2.2.2.2.2.2.2.2.2.2.2.2.2.2.2.2.2.2 y_15.2.2.2.2.2.2.2.2.2.2.2.2.2.2.2.2.2.2.2.2.2.2.1 y_0.2.2.2.2.2.2.2.2.2.2.2.2.2.2.2.2.2.1 y_0.2.2.2.2.2.2.2.2.2.2.2.2.2.2.2.2.2.2.1 y_0.2.2.2.2.2.2.2.2.2.2.2.2.2.2.2.2.2.2.2.1 (Zaf.mk y_0.2.1 y_0.2.2.1 y_0.2.2.2.1 y_0.2.2.2.2.1 y_0.2.2.2.2.2.1 y_0.2.2.2.2.2.2.1 (Zai.mk y_0.2.2.2.2.2.2.2.1 y_0.2.2.2.2.2.2.2.2.1 y_0.2.2.2.2.2.2.2.2.2.1) y_0.2.2.2.2.2.2.2.2.2.2.1 y_0.2.2.2.2.2.2.2.2.2.2.2.1 y_0.2.2.2.2.2.2.2.2.2.2.2.2.1 y_0.2.2.2.2.2.2.2.2.2.2.2.2.2.1 y_0.2.2.2.2.2.2.2.2.2.2.2.2.2.2.1 y_0.2.2.2.2.2.2.2.2.2.2.2.2.2.2.2.1 y_0.2.2.2.2.2.2.2.2.2.2.2.2.2.2.2.2.1) (Zaf.mk y_15.2.2.1 y_15.2.2.2.1 y_15.2.2.2.2.1 y_15.2.2.2.2.2.1 y_15.2.2.2.2.2.2.1 y_15.2.2.2.2.2.2.2.1 (Zai.mk y_15.2.2.2.2.2.2.2.2.1 y_15.2.2.2.2.2.2.2.2.2.1 y_15.2.2.2.2.2.2.2.2.2.2.1) y_15.2.2.2.2.2.2.2.2.2.2.2.1 y_15.2.2.2.2.2.2.2.2.2.2.2.2.1 y_15.2.2.2.2.2.2.2.2.2.2.2.2.2.1 y_15.2.2.2.2.2.2.2.2.2.2.2.2.2.2.1 y_15.2.2.2.2.2.2.2.2.2.2.2.2.2.2.2.1 y_15.2.2.2.2.2.2.2.2.2.2.2.2.2.2.2.2.1 y_15.2.2.2.2.2.2.2.2.2.2.2.2.2.2.2.2.2.1) y_15.2.2.2.2.2.2.2.2.2.2.2.2.2.2.2.2.2.2.1 y_15.2.2.2.2.2.2.2.2.2.2.2.2.2.2.2.2.2.2.2.1)) gs),y_15.2.2.2.2.2.2.2.2.2.2.2.2.2.2.2.2.2.2.2.2.1,y_15.2.2.2.2.2.2.2.2.2.2.2.2.2.2.2.2.2.2.2.2.2.1,y_15.2.2.2.2.2.2.2.2.2.2.2.2.2.2.2.2.2.2.2.2.2.2.2.1,y_15.2.2.2.2.2.2.2.2.2.2.2.2.2.2.2.2.2.2.2.2.2.2.2.2.1,y_15.2.2.2.2.2.2.2.2.2.2.2.2.2.2.2.2.2.2.2.2.2.2.2.2.2.1,l_19,y_15.2.2.2.2.2.2.2.2.2.2.2.2.2.2.2.2.2.2.2.2.2.2.2.2.2.2.2.1) else none else none
def Zc0 (F:Nat) (a:Zcl) (c:(List Int)) (cq2:Bool) (gs:(List (Int×group_node))) (cq4:Int) (tb:Bool) (l:(List Zaa)) (lq7:(List Int)) (lq8:(List Int)) (lq9:(List Zah)) (lq10:(List Zag)) (m:(List (Zae×Int))):Option (Int×(List Int)×Bool×(List (Int×group_node))×Int×Bool×(List Zaa)×(List Int)×(List Int)×(List Zah)×(List Zag)) :=
 (ZaY F a.Node c cq2 gs cq4 tb l lq7 lq8 lq9 lq10 m).bind fun y_0=>(Sum.elim (fun y_0=>( (bif (y_0.1 != (0:Int)) then ( some (y_0.1,c,cq2,y_0.2,cq4,tb,l,lq7,lq8,lq9,lq10) ) else ( none )) )) (fun y_0=>( (bif (y_0.1 != (0:Int)) then ( (bif Option.isSome (mget y_0.2.2.1 y_0.2.1) then (some (y_0.1,c,cq2,(mput y_0.2.2.1 (@Sum.inr group_nodeD group_nodeU (group_nodeU.mk y_0.2.2.2.2.2.2.2.2.2.2.2.2.2.2.2.2.2.2.2.2.2.2.2.2.2.2.2.2.2.2.2.2.2.2.2.2.2.2.1 y_0.2.2.2.2.2.2.2.2.2.2.2.2.2.2.2.2.2.2.2.2.2.2.2.2.2.2.2.2.2.2.2.2.2.2.2.2.2.2.2.1 y_0.2.2.2.2.2.2.2.2.2.2.2.2.2.2.2.2.2.2.2.2.2.1 y_0.2.2.2.2.2.2.2.2.2.2.2.2.2.2.2.2.2.2.2.2.2.2.2.2.2.2.2.2.2.2.2.2.2.2.2.2.2.2.2.2.1 y_0.2.2.2.2.2.2.2.2.2.2.2.2.2.2.2.2.2.2.2.2.2.2.2.2.2.2.2.2.2.2.2.2.2.2.2.2.2.2.2.2.2.1 y_0.2.2.2.2.2.2.2.2.2.2.2.2.2.2.2.2.2.2.2.2.2.2.2.2.2.2.2.2.2.2.2.2.2.2.2.2.2.2.2.2.2.2 (Zaf.mk y_0.2.2.2.2.2.2.2.2.2.2.2.2.2.2.2.2.2.2.2.2.2.2.1 y_0.2.2.2.2.2.2.2.2.2.2.2.2.2.2.2.2.2.2.2.2.2.2.2.1 y_0.2.2.2.2.2.2.2.2.2.2.2.2.2.2.2.2.2.2.2.2.2.2.2.2.1 y_0.2.2.2.2.2.2.2.2.2.2.2.2.2.2.2.2.2.2.2.2.2.2.2.2.2.1 y_0.2.2.2.2.2.2.2.2.2.2.2.2.2.2.2.2.2.2.2.2.2.2.2.2.2.2.1 y_0.2.2.2.2.2.2.2.2.2.2.2.2.2.2.2.2.2.2.2.2.2.2.2.2.2.2.2.1 (Zai.mk y_0.2.2.2.2.2.2.2.2.2.2.2.2.2.2.2.2.2.2.2.2.2.2.2.2.2.2.2.2.1 y_0.2.2.2.2.2.2.2.2.2.2.2.2.2.2.2.2.2.2.2.2.2.2.2.2.2.2.2.2.2.1 y_0.2.2.2.2.2.2.2.2.2.2.2.2.2.2.2.2.2.2.2.2.2.2.2.2.2.2.2.2.2.2.1) y_0.2.2.2.2.2.2.2.2.2.2.2.2.2.2.2.2.2.2.2.2.2.2.2.2.2.2.2.2.2.2.2.1 y_0.2.2.2.2.2.2.2.2.2.2.2.2.2.2.2.2.2.2.2.2.2.2.2.2.2.2.2.2.2.2.2.2.1 y_0.2.2.2.2.2.2.2.2.2.2.2.2.2.2.2.2.2.2.2.2.2.2.2.2.2.2.2.2.2.2.2.2.2.1 y_0.2.2.2.2.2.2.2.2.2.2.2.2.2.2.2.2.2.2.2.2.2.2.2.2.2.2.2.2.2.2.2.2.2.2.1 y_0.2.2.2.2.2.2.2.2.2.2.2.2.2.2.2.2.2.2.2.2.2.2.2.2.2.2.2.2.2.2.2.2.2.2.2.1 y_0.2.2.2.2.2.2.2.2.2.2.2.2.2.2.2.2.2.2.2.2.2.2.2.2.2.2.2.2.2.2.2.2.2.2.2.2.1 y_0.2.2.2.2.2.2.2.2.2.2.2.2.2.2.2.2.2.2.2.2.2.2.2.2.2.2.2.2.2.2.2.2.2.2.2.2.2.1) (Zaf.mk y_0.2.2.2.1 y_0.2.2.2.2.1 y_0.2.2.2.2.2.1 y_0.2.2.2.2.2.2.1 y_0.2.2.2.2.2.2.2.1 y_0.2.2.2.2.2.2.2.2.1 (Zai.mk y_0.2.2.2.2.2.2.2.2.2.1 y_0.2.2.2.2.2.2.2.2.2.2.1 y_0.2.2.2.2.2.2.2.2.2.2.2.1) y_0.2.2.2.2.2.2.2.2.2.2.2.2.1 y_0.2.2.2.2.2.2.2.2.2.2.2.2.2.1 y_0.2.2.2.2.2.2.2.2.2.2.2.2.2.2.1 y_0.2.2.2.2.2.2.2.2.2.2.2.2.2.2.2.1 y_0.2.2.2.2.2.2.2.2.2.2.2.2.2.2.2.2.1 y_0.2.2.2.2.2.2.2.2.2.2.2.2.2.2.2.2.2.1 y_0.2.2.2.2.2.2.2.2.2.2.2.2.2.2.2.2.2.2.1) y_0.2.2.2.2.2.2.2.2.2.2.2.2.2.2.2.2.2.2.2.1 y_0.2.2.2.2.2.2.2.2.2.2.2.2.2.2.2.2.2.2.2.2.1)) y_0.2.1),cq4,tb,l,lq7,lq8,lq9,lq10)) else none) ) else ( (Option.bind (Zhi F (Zaf.mk y_0.2.2.2.1 y_0.2.2.2.2.1 y_0.2.2.2.2.2.1 y_0.2.2.2.2.2.2.1 y_0.2.2.2.2.2.2.2.1 y_0.2.2.2.2.2.2.2.2.1 (Zai.mk y_0.2.2.2.2.2.2.2.2.2.1 y_0.2.2.2.2.2.2.2.2.2.2.1 y_0.2.2.2.2.2.2.2.2.2.2.2.1) y_0.2.2.2.2.2.2.2.2.2.2.2.2.1 y_0.2.2.2.2.2.2.2.2.2.2.2.2.2.1 y_0.2.2.2.2.2.2.2.2.2.2.2.2.2.2.1 y_0.2.2.2.2.2.2.2.2.2.2.2.2.2.2.2.1 y_0.2.2.2.2.2.2.2.2.2.2.2.2.2.2.2.2.1 y_0.2.2.2.2.2.2.2.2.2.2.2.2.2.2.2.2.2.1 y_0.2.2.2.2.2.2.2.2.2.2.2.2.2.2.2.2.2.2.1) a.Draw) fun y_1=>( (Option.bind (Zcd F a.Node (Zaf.mk y_1.1 y_1.2.1 y_1.2.2.1 y_1.2.2.2.1 y_1.2.2.2.2.1 y_1.2.2.2.2.2.1 (Zai.mk y_1.2.2.2.2.2.2.1 y_1.2.2.2.2.2.2.2.1 y_1.2.2.2.2.2.2.2.2.1) y_1.2.2.2.2.2.2.2.2.2.1 y_1.2.2.2.2.2.2.2.2.2.2.1 y_1.2.2.2.2.2.2.2.2.2.2.2.1 y_1.2.2.2.2.2.2.2.2.2.2.2.2.1 y_1.2.2.2.2.2.2.2.2.2.2.2.2.2.1 y_1.2.2.2.2.2.2.2.2.2.2.2.2.2.2.1 y_1.2.2.2.2.2.2.2.2.2.2.2.2.2.2.2.1) y_1.2.2.2.2.2.2.2.2.2.2.2.2.2.2.2.2 a c cq2 y_0.2.1 y_0.2.2.1 cq4 tb l lq7 lq8 lq9 y_0.2.2.2.1 y_0.2.2.2.2.1 y_0.2.2.2.2.2.1 y_0.2.2.2.2.2.2.1 y_0.2.2.2.2.2.2.2.1 y_0.2.2.2.2.2.2.2.2.1 y_0.2.2.2.2.2.2.2.2.2.1 y_0.2.2.2.2.2.2.2.2.2.2.1 y_0.2.2.2.2.2.2.2.2.2.2.2.1 y_0.2.2.2.2.2.2.2.2.2.2.2.2.1 y_0.2.2.2.2.2.2.2.2.2.2.2.2.2.1 y_0.2.2.2.2.2.2.2.2.2.2.2.2.2.2.1 y_0.2.2.2.2.2.2.2.2.2.2.2.2.2.2.2.1 y_0.2.2.2.2.2.2.2.2.2.2.2.2.2.2.2.2.1 y_0.2.2.2.2.2.2.2.2.2.2.2.2.2.2.2.2.2.1 y_0.2.2.2.2.2.2.2.2.2.2.2.2.2.2.2.2.2.2.1 y_0.2.2.2.2.2.2.2.2.2.2.2.2.2.2.2.2.2.2.2.1 y_0.2.2.2.2.2.2.2.2.2.2.2.2.2.2.2.2.2.2.2.2.1 lq10 m y_0.2.2.2.2.2.2.2.2.2.2.2.2.2.2.2.2.2.2.2.2.2.1 y_0.2.2.2.2.2.2.2.2.2.2.2.2.2.2.2.2.2.2.2.2.2.2.1 y_0.2.2.2.2.2.2.2.2.2.2.2.2.2.2.2.2.2.2.2.2.2.2.2.1 y_0.2.2.2.2.2.2.2.2.2.2.2.2.2.2.2.2.2.2.2.2.2.2.2.2.1 y_0.2.2.2.2.2.2.2.2.2.2.2.2.2.2.2.2.2.2.2.2.2.2.2.2.2.1 y_0.2.2.2.2.2.2.2.2.2.2.2.2.2.2.2.2.2.2.2.2.2.2.2.2.2.2.1 y_0.2.2.2.2.2.2.2.2.2.2.2.2.2.2.2.2.2.2.2.2.2.2.2.2.2.2.2.1 y_0.2.2.2.2.2.2.2.2.2.2.2.2.2.2.2.2.2.2.2.2.2.2.2.2.2.2.2.2.1 y_0.2.2.2.2.2.2.2.2.2.2.2.2.2.2.2.2.2.2.2.2.2.2.2.2.2.2.2.2.2.1 y_0.2.2.2.2.2.2.2.2.2.2.2.2.2.2.2.2.2.2.2.2.2.2.2.2.2.2.2.2.2.2.1 y_0.2.2.2.2.2.2.2.2.2.2.2.2.2.2.2.2.2.2.2.2.2.2.2.2.2.2.2.2.2.2.2.1 y_0.2.2.2.2.2.2.2.2.2.2.2.2.2.2.2.2.2.2.2.2.2.2.2.2.2.2.2.2.2.2.2.2.1 y_0.2.2.2.2.2.2.2.2.2.2.2.2.2.2.2.2.2.2.2.2.2.2.2.2.2.2.2.2.2.2.2.2.2.1 y_0.2.2.2.2.2.2.2.2.2.2.2.2.2.2.2.2.2.2.2.2.2.2.2.2.2.2.2.2.2.2.2.2.2.2.1 y_0.2.2.2.2.2.2.2.2.2.2.2.2.2.2.2.2.2.2.2.2.2.2.2.2.2.2.2.2.2.2.2.2.2.2.2.1 y_0.2.2.2.2.2.2.2.2.2.2.2.2.2.2.2.2.2.2.2.2.2.2.2.2.2.2.2.2.2.2.2.2.2.2.2.2.1 y_0.2.2.2.2.2.2.2.2.2.2.2.2.2.2.2.2.2.2.2.2.2.2.2.2.2.2.2.2.2.2.2.2.2.2.2.2.2.1 y_0.2.2.2.2.2.2.2.2.2.2.2.2.2.2.2.2.2.2.2.2.2.2.2.2.2.2.2.2.2.2.2.2.2.2.2.2.2.2.1 y_0.2.2.2.2.2.2.2.2.2.2.2.2.2.2.2.2.2.2.2.2.2.2.2.2.2.2.2.2.2.2.2.2.2.2.2.2.2.2.2.1 y_0.2.2.2.2.2.2.2.2.2.2.2.2.2.2.2.2.2.2.2.2.2.2.2.2.2.2.2.2.2.2.2.2.2.2.2.2.2.2.2.2.1 y_0.2.2.2.2.2.2.2.2.2.2.2.2.2.2.2.2.2.2.2.2.2.2.2.2.2.2.2.2.2.2.2.2.2.2.2.2.2.2.2.2.2.1 y_0.2.2.2.2.2.2.2.2.2.2.2.2.2.2.2.2.2.2.2.2.2.2.2.2.2.2.2.2.2.2.2.2.2.2.2.2.2.2.2.2.2.2) fun y_2=>( some (y_2.1,y_2.2.1,y_2.2.2.1,y_2.2.2.2.1,y_2.2.2.2.2.1,y_2.2.2.2.2.2.1,y_2.2.2.2.2.2.2.1,y_2.2.2.2.2.2.2.2.1,y_2.2.2.2.2.2.2.2.2.1,y_2.2.2.2.2.2.2.2.2.2.1,y_2.2.2.2.2.2.2.2.2.2.2) )) )) )) )) y_0)
def ZfC (F:Nat) (r_:Zaf) (data:(List UInt8)):Option (Int×(List Int)×Int×Int×Int×Int×Int×Int×(List Zaa)×(List UInt8)×Int×Int×Int×Int×Int×(List Int)×(List Int)×(List Int)×(List Zad)) :=
 (ZfO F r_).bind fun y_0=>Option.bind ((Zeb F r_).bind fun y_6=>bif !y_6 then some true else some (r_.Role != (2:Int))) fun t13_5=>bif t13_5 then some (y_0.1,y_0.2.1,y_0.2.2.1,y_0.2.2.2.1,y_0.2.2.2.2.1,y_0.2.2.2.2.2.1,y_0.2.2.2.2.2.2.1,y_0.2.2.2.2.2.2.2.1,y_0.2.2.2.2.2.2.2.2.1,y_0.2.2.2.2.2.2.2.2.2.1,y_0.2.2.2.2.2.2.2.2.2.2.1,y_0.2.2.2.2.2.2.2.2.2.2.2.1,y_0.2.2.2.2.2.2.2.2.2.2.2.2.1,(0:Int),(4:Int),y_0.2.2.2.2.2.2.2.2.2.2.2.2.2.1,y_0.2.2.2.2.2.2.2.2.2.2.2.2.2.2.1,y_0.2.2.2.2.2.2.2.2.2.2.2.2.2.2.2.1,[]) else Option.bind (bif decide ((data.length:Int)<(1:Int)) then some true else some (decide ((4096:Int)<(data.length:Int)))) fun t26_7=>bif t26_7 then some (y_0.1,y_0.2.1,y_0.2.2.1,y_0.2.2.2.1,y_0.2.2.2.2.1,y_0.2.2.2.2.2.1,y_0.2.2.2.2.2.2.1,y_0.2.2.2.2.2.2.2.1,y_0.2.2.2.2.2.2.2.2.1,y_0.2.2.2.2.2.2.2.2.2.1,y_0.2.2.2.2.2.2.2.2.2.2.1,y_0.2.2.2.2.2.2.2.2.2.2.2.1,y_0.2.2.2.2.2.2.2.2.2.2.2.2.1,(0:Int),(1:Int),y_0.2.2.2.2.2.2.2.2.2.2.2.2.2.1,y_0.2.2.2.2.2.2.2.2.2.2.2.2.2.2.1,y_0.2.2.2.2.2.2.2.2.2.2.2.2.2.2.2.1,[]) else (Zey F (Zai.mk y_0.2.2.2.2.2.2.1 y_0.2.2.2.2.2.2.2.1 y_0.2.2.2.2.2.2.2.2.1) (Zaa.mk y_0.2.2.1 data)).bind fun y_8=>bif !y_8.2 then some (y_0.1,y_0.2.1,y_0.2.2.1,y_0.2.2.2.1,y_0.2.2.2.2.1,y_0.2.2.2.2.2.1,y_0.2.2.2.2.2.2.1,y_0.2.2.2.2.2.2.2.1,y_0.2.2.2.2.2.2.2.2.1,y_0.2.2.2.2.2.2.2.2.2.1,y_0.2.2.2.2.2.2.2.2.2.2.1,y_0.2.2.2.2.2.2.2.2.2.2.2.1,y_0.2.2.2.2.2.2.2.2.2.2.2.2.1,(0:Int),(3:Int),y_0.2.2.2.2.2.2.2.2.2.2.2.2.2.1,y_0.2.2.2.2.2.2.2.2.2.2.2.2.2.2.1,y_0.2.2.2.2.2.2.2.2.2.2.2.2.2.2.2.1,[]) else (Zcc F y_0.1 y_0.2.1 y_0.2.2.1 y_0.2.2.2.1 y_0.2.2.2.2.1 y_0.2.2.2.2.2.1 y_8.1.Base y_8.1.BaseTerm y_8.1.Entries y_0.2.2.2.2.2.2.2.2.2.1 y_0.2.2.2.2.2.2.2.2.2.2.1 y_0.2.2.2.2.2.2.2.2.2.2.2.1 y_0.2.2.2.2.2.2.2.2.2.2.2.2.1 y_0.2.2.2.2.2.2.2.2.2.2.2.2.2.1 y_0.2.2.2.2.2.2.2.2.2.2.2.2.2.2.1 y_0.2.2.2.2.2.2.2.2.2.2.2.2.2.2.2.1 y_0.2.2.2.2.2.2.2.2.2.2.2.2.2.2.2.2).bind fun y_9=>(Zcp F y_0.1 y_0.2.1 y_0.2.2.1 y_0.2.2.2.1 y_0.2.2.2.2.1 y_0.2.2.2.2.2.1 y_8.1.Base y_8.1.BaseTerm y_8.1.Entries y_0.2.2.2.2.2.2.2.2.2.1 y_0.2.2.2.2.2.2.2.2.2.2.1 y_0.2.2.2.2.2.2.2.2.2.2.2.1 y_0.2.2.2.2.2.2.2.2.2.2.2.2.1 y_0.2.2.2.2.2.2.2.2.2.2.2.2.2.1 y_9.1 y_9.2 y_0.2.2.2.2.2.2.2.2.2.2.2.2.2.2.2.2).bind fun y_10=>(Zbp F y_10.1 y_10.2.1 y_10.2.2.1 y_10.2.2.2.1 y_10.2.2.2.2.1 y_10.2.2.2.2.2.1 y_10.2.2.2.2.2.2.1 y_10.2.2.2.2.2.2.2.1 y_10.2.2.2.2.2.2.2.2.1 y_10.2.2.2.2.2.2.2.2.2.1 y_10.2.2.2.2.2.2.2.2.2.2.1 y_10.2.2.2.2.2.2.2.2.2.2.2.1 y_10.2.2.2.2.2.2.2.2.2.2.2.2 y_0.2.2.2.2.2.2.2.2.2.2.2.2.2.1 y_9.1 y_9.2 y_0.2.2.2.2.2.2.2.2.2.2.2.2.2.2.2.2).bind fun y_11=>(Zby F y_10.1 y_10.2.1 y_10.2.2.1 y_10.2.2.2.1 y_10.2.2.2.2.1 y_10.2.2.2.2.2.1 y_10.2.2.2.2.2.2.1 y_10.2.2.2.2.2.2.2.1 y_10.2.2.2.2.2.2.2.2.1 y_10.2.2.2.2.2.2.2.2.2.1 y_10.2.2.2.2.2.2.2.2.2.2.1 y_10.2.2.2.2.2.2.2.2.2.2.2.1 y_10.2.2.2.2.2.2.2.2.2.2.2.2 y_0.2.2.2.2.2.2.2.2.2.2.2.2.2.1 y_9.1 y_9.2 y_0.2.2.2.2.2.2.2.2.2.2.2.2.2.2.2.2).bind fun y_12=>some (y_10.1,y_10.2.1,y_10.2.2.1,y_10.2.2.2.1,y_10.2.2.2.2.1,y_10.2.2.2.2.2.1,y_10.2.2.2.2.2.2.1,y_10.2.2.2.2.2.2.2.1,y_10.2.2.2.2.2.2.2.2.1,y_10.2.2.2.2.2.2.2.2.2.1,y_10.2.2.2.2.2.2.2.2.2.2.1,y_10.2.2.2.2.2.2.2.2.2.2.2.1,y_10.2.2.2.2.2.2.2.2.2.2.2.2,y_12,(0:Int),y_0.2.2.2.2.2.2.2.2.2.2.2.2.2.1,y_9.1,y_9.2,y_0.2.2.2.2.2.2.2.2.2.2.2.2.2.2.2.2)
def Zcn (F:Nat) (a:Zcl) (c:(List Int)) (cq2:Bool) (gs:(List (Int×group_node))) (cq4:Int) (tb:Bool) (l:(List Zaa)) (lq7:(List Int)) (lq8:(List Int)) (lq9:(List Zah)) (lq10:(List Zag)) (m:(List (Zae×Int))):Option (Int×(List Int)×Bool×(List (Int×group_node))×Int×Bool×(List Zaa)×(List Int)×(List Int)×(List Zah)×(List Zag)) :=
 (ZaY F a.Node c cq2 gs cq4 tb l lq7 lq8 lq9 lq10 m).bind fun y_0=>(Sum.elim (fun y_0=>( (bif (y_0.1 != (0:Int)) then ( some (y_0.1,c,cq2,y_0.2,cq4,tb,l,lq7,lq8,lq9,lq10) ) else ( none )) )) (fun y_0=>( (bif (y_0.1 != (0:Int)) then ( (bif Option.isSome (mget y_0.2.2.1 y_0.2.1) then (some (y_0.1,c,cq2,(mput y_0.2.2.1 (@Sum.inr group_nodeD group_nodeU (group_nodeU.mk y_0.2.2.2.2.2.2.2.2.2.2.2.2.2.2.2.2.2.2.2.2.2.2.2.2.2.2.2.2.2.2.2.2.2.2.2.2.2.2.1 y_0.2.2.2.2.2.2.2.2.2.2.2.2.2.2.2.2.2.2.2.2.2.2.2.2.2.2.2.2.2.2.2.2.2.2.2.2.2.2.2.1 y_0.2.2.2.2.2.2.2.2.2.2.2.2.2.2.2.2.2.2.2.2.2.1 y_0.2.2.2.2.2.2.2.2.2.2.2.2.2.2.2.2.2.2.2.2.2.2.2.2.2.2.2.2.2.2.2.2.2.2.2.2.2.2.2.2.1 y_0.2.2.2.2.2.2.2.2.2.2.2.2.2.2.2.2.2.2.2.2.2.2.2.2.2.2.2.2.2.2.2.2.2.2.2.2.2.2.2.2.2.1 y_0.2.2.2.2.2.2.2.2.2.2.2.2.2.2.2.2.2.2.2.2.2.2.2.2.2.2.2.2.2.2.2.2.2.2.2.2.2.2.2.2.2.2 (Zaf.mk y_0.2.2.2.2.2.2.2.2.2.2.2.2.2.2.2.2.2.2.2.2.2.2.1 y_0.2.2.2.2.2.2.2.2.2.2.2.2.2.2.2.2.2.2.2.2.2.2.2.1 y_0.2.2.2.2.2.2.2.2.2.2.2.2.2.2.2.2.2.2.2.2.2.2.2.2.1 y_0.2.2.2.2.2.2.2.2.2.2.2.2.2.2.2.2.2.2.2.2.2.2.2.2.2.1 y_0.2.2.2.2.2.2.2.2.2.2.2.2.2.2.2.2.2.2.2.2.2.2.2.2.2.2.1 y_0.2.2.2.2.2.2.2.2.2.2.2.2.2.2.2.2.2.2.2.2.2.2.2.2.2.2.2.1 (Zai.mk y_0.2.2.2.2.2.2.2.2.2.2.2.2.2.2.2.2.2.2.2.2.2.2.2.2.2.2.2.2.1 y_0.2.2.2.2.2.2.2.2.2.2.2.2.2.2.2.2.2.2.2.2.2.2.2.2.2.2.2.2.2.1 y_0.2.2.2.2.2.2.2.2.2.2.2.2.2.2.2.2.2.2.2.2.2.2.2.2.2.2.2.2.2.2.1) y_0.2.2.2.2.2.2.2.2.2.2.2.2.2.2.2.2.2.2.2.2.2.2.2.2.2.2.2.2.2.2.2.1 y_0.2.2.2.2.2.2.2.2.2.2.2.2.2.2.2.2.2.2.2.2.2.2.2.2.2.2.2.2.2.2.2.2.1 y_0.2.2.2.2.2.2.2.2.2.2.2.2.2.2.2.2.2.2.2.2.2.2.2.2.2.2.2.2.2.2.2.2.2.1 y_0.2.2.2.2.2.2.2.2.2.2.2.2.2.2.2.2.2.2.2.2.2.2.2.2.2.2.2.2.2.2.2.2.2.2.1 y_0.2.2.2.2.2.2.2.2.2.2.2.2.2.2.2.2.2.2.2.2.2.2.2.2.2.2.2.2.2.2.2.2.2.2.2.1 y_0.2.2.2.2.2.2.2.2.2.2.2.2.2.2.2.2.2.2.2.2.2.2.2.2.2.2.2.2.2.2.2.2.2.2.2.2.1 y_0.2.2.2.2.2.2.2.2.2.2.2.2.2.2.2.2.2.2.2.2.2.2.2.2.2.2.2.2.2.2.2.2.2.2.2.2.2.1) (Zaf.mk y_0.2.2.2.1 y_0.2.2.2.2.1 y_0.2.2.2.2.2.1 y_0.2.2.2.2.2.2.1 y_0.2.2.2.2.2.2.2.1 y_0.2.2.2.2.2.2.2.2.1 (Zai.mk y_0.2.2.2.2.2.2.2.2.2.1 y_0.2.2.2.2.2.2.2.2.2.2.1 y_0.2.2.2.2.2.2.2.2.2.2.2.1) y_0.2.2.2.2.2.2.2.2.2.2.2.2.1 y_0.2.2.2.2.2.2.2.2.2.2.2.2.2.1 y_0.2.2.2.2.2.2.2.2.2.2.2.2.2.2.1 y_0.2.2.2.2.2.2.2.2.2.2.2.2.2.2.2.1 y_0.2.2.2.2.2.2.2.2.2.2.2.2.2.2.2.2.1 y_0.2.2.2.2.2.2.2.2.2.2.2.2.2.2.2.2.2.1 y_0.2.2.2.2.2.2.2.2.2.2.2.2.2.2.2.2.2.2.1) y_0.2.2.2.2.2.2.2.2.2.2.2.2.2.2.2.2.2.2.2.1 y_0.2.2.2.2.2.2.2.2.2.2.2.2.2.2.2.2.2.2.2.2.1)) y_0.2.1),cq4,tb,l,lq7,lq8,lq9,lq10)) else none) ) else ( (Option.bind (ZfC F (Zaf.mk y_0.2.2.2.1 y_0.2.2.2.2.1 y_0.2.2.2.2.2.1 y_0.2.2.2.2.2.2.1 y_0.2.2.2.2.2.2.2.1 y_0.2.2.2.2.2.2.2.2.1 (Zai.mk y_0.2.2.2.2.2.2.2.2.2.1 y_0.2.2.2.2.2.2.2.2.2.2.1 y_0.2.2.2.2.2.2.2.2.2.2.2.1) y_0.2.2.2.2.2.2.2.2.2.2.2.2.1 y_0.2.2.2.2.2.2.2.2.2.2.2.2.2.1 y_0.2.2.2.2.2.2.2.2.2.2.2.2.2.2.1 y_0.2.2.2.2.2.2.2.2.2.2.2.2.2.2.2.1 y_0.2.2.2.2.2.2.2.2.2.2.2.2.2.2.2.2.1 y_0.2.2.2.2.2.2.2.2.2.2.2.2.2.2.2.2.2.1 y_0.2.2.2.2.2.2.2.2.2.2.2.2.2.2.2.2.2.2.1) a.Data) fun y_1=>( (bif (y_1.2.2.2.2.2.2.2.2.2.2.2.2.2.2.1 != (0:Int)) then ( (bif Option.isSome (mget y_0.2.2.1 y_0.2.1) then (some (y_1.2.2.2.2.2.2.2.2.2.2.2.2.2.2.1,c,cq2,(mput y_0.2.2.1 (@Sum.inr group_nodeD group_nodeU (group_nodeU.mk y_0.2.2.2.2.2.2.2.2.2.2.2.2.2.2.2.2.2.2.2.2.2.2.2.2.2.2.2.2.2.2.2.2.2.2.2.2.2.2.1 y_0.2.2.2.2.2.2.2.2.2.2.2.2.2.2.2.2.2.2.2.2.2.2.2.2.2.2.2.2.2.2.2.2.2.2.2.2.2.2.2.1 y_0.2.2.2.2.2.2.2.2.2.2.2.2.2.2.2.2.2.2.2.2.2.1 y_0.2.2.2.2.2.2.2.2.2.2.2.2.2.2.2.2.2.2.2.2.2.2.2.2.2.2.2.2.2.2.2.2.2.2.2.2.2.2.2.2.1 y_0.2.2.2.2.2.2.2.2.2.2.2.2.2.2.2.2.2.2.2.2.2.2.2.2.2.2.2.2.2.2.2.2.2.2.2.2.2.2.2.2.2.1 y_0.2.2.2.2.2.2.2.2.2.2.2.2.2.2.2.2.2.2.2.2.2.2.2.2.2.2.2.2.2.2.2.2.2.2.2.2.2.2.2.2.2.2 (Zaf.mk y_0.2.2.2.2.2.2.2.2.2.2.2.2.2.2.2.2.2.2.2.2.2.2.1 y_0.2.2.2.2.2.2.2.2.2.2.2.2.2.2.2.2.2.2.2.2.2.2.2.1 y_0.2.2.2.2.2.2.2.2.2.2.2.2.2.2.2.2.2.2.2.2.2.2.2.2.1 y_0.2.2.2.2.2.2.2.2.2.2.2.2.2.2.2.2.2.2.2.2.2.2.2.2.2.1 y_0.2.2.2.2.2.2.2.2.2.2.2.2.2.2.2.2.2.2.2.2.2.2.2.2.2.2.1 y_0.2.2.2.2.2.2.2.2.2.2.2.2.2.2.2.2.2.2.2.2.2.2.2.2.2.2.2.1 (Zai.mk y_0.2.2.2.2.2.2.2.2.2.2.2.2.2.2.2.2.2.2.2.2.2.2.2.2.2.2.2.2.1 y_0.2.2.2.2.2.2.2.2.2.2.2.2.2.2.2.2.2.2.2.2.2.2.2.2.2.2.2.2.2.1 y_0.2.2.2.2.2.2.2.2.2.2.2.2.2.2.2.2.2.2.2.2.2.2.2.2.2.2.2.2.2.2.1) y_0.2.2.2.2.2.2.2.2.2.2.2.2.2.2.2.2.2.2.2.2.2.2.2.2.2.2.2.2.2.2.2.1 y_0.2.2.2.2.2.2.2.2.2.2.2.2.2.2.2.2.2.2.2.2.2.2.2.2.2.2.2.2.2.2.2.2.1 y_0.2.2.2.2.2.2.2.2.2.2.2.2.2.2.2.2.2.2.2.2.2.2.2.2.2.2.2.2.2.2.2.2.2.1 y_0.2.2.2.2.2.2.2.2.2.2.2.2.2.2.2.2.2.2.2.2.2.2.2.2.2.2.2.2.2.2.2.2.2.2.1 y_0.2.2.2.2.2.2.2.2.2.2.2.2.2.2.2.2.2.2.2.2.2.2.2.2.2.2.2.2.2.2.2.2.2.2.2.1 y_0.2.2.2.2.2.2.2.2.2.2.2.2.2.2.2.2.2.2.2.2.2.2.2.2.2.2.2.2.2.2.2.2.2.2.2.2.1 y_0.2.2.2.2.2.2.2.2.2.2.2.2.2.2.2.2.2.2.2.2.2.2.2.2.2.2.2.2.2.2.2.2.2.2.2.2.2.1) (Zaf.mk y_0.2.2.2.1 y_0.2.2.2.2.1 y_0.2.2.2.2.2.1 y_0.2.2.2.2.2.2.1 y_0.2.2.2.2.2.2.2.1 y_0.2.2.2.2.2.2.2.2.1 (Zai.mk y_0.2.2.2.2.2.2.2.2.2.1 y_0.2.2.2.2.2.2.2.2.2.2.1 y_0.2.2.2.2.2.2.2.2.2.2.2.1) y_0.2.2.2.2.2.2.2.2.2.2.2.2.1 y_0.2.2.2.2.2.2.2.2.2.2.2.2.2.1 y_0.2.2.2.2.2.2.2.2.2.2.2.2.2.2.1 y_0.2.2.2.2.2.2.2.2.2.2.2.2.2.2.2.1 y_0.2.2.2.2.2.2.2.2.2.2.2.2.2.2.2.2.1 y_0.2.2.2.2.2.2.2.2.2.2.2.2.2.2.2.2.2.1 y_0.2.2.2.2.2.2.2.2.2.2.2.2.2.2.2.2.2.2.1) y_0.2.2.2.2.2.2.2.2.2.2.2.2.2.2.2.2.2.2.2.1 y_0.2.2.2.2.2.2.2.2.2.2.2.2.2.2.2.2.2.2.2.2.1)) y_0.2.1),cq4,tb,l,lq7,lq8,lq9,lq10)) else none) ) else ( (Option.bind (Zcd F a.Node (Zaf.mk y_1.1 y_1.2.1 y_1.2.2.1 y_1.2.2.2.1 y_1.2.2.2.2.1 y_1.2.2.2.2.2.1 (Zai.mk y_1.2.2.2.2.2.2.1 y_1.2.2.2.2.2.2.2.1 y_1.2.2.2.2.2.2.2.2.1) y_1.2.2.2.2.2.2.2.2.2.1 y_1.2.2.2.2.2.2.2.2.2.2.1 y_1.2.2.2.2.2.2.2.2.2.2.2.1 y_1.2.2.2.2.2.2.2.2.2.2.2.2.1 y_1.2.2.2.2.2.2.2.2.2.2.2.2.2.2.2.1 y_1.2.2.2.2.2.2.2.2.2.2.2.2.2.2.2.2.1 y_1.2.2.2.2.2.2.2.2.2.2.2.2.2.2.2.2.2.1) y_1.2.2.2.2.2.2.2.2.2.2.2.2.2.2.2.2.2.2 a c cq2 y_0.2.1 y_0.2.2.1 cq4 tb l lq7 lq8 lq9 y_0.2.2.2.1 y_0.2.2.2.2.1 y_0.2.2.2.2.2.1 y_0.2.2.2.2.2.2.1 y_0.2.2.2.2.2.2.2.1 y_0.2.2.2.2.2.2.2.2.1 y_0.2.2.2.2.2.2.2.2.2.1 y_0.2.2.2.2.2.2.2.2.2.2.1 y_0.2.2.2.2.2.2.2.2.2.2.2.1 y_0.2.2.2.2.2.2.2.2.2.2.2.2.1 y_0.2.2.2.2.2.2.2.2.2.2.2.2.2.1 y_0.2.2.2.2.2.2.2.2.2.2.2.2.2.2.1 y_0.2.2.2.2.2.2.2.2.2.2.2.2.2.2.2.1 y_0.2.2.2.2.2.2.2.2.2.2.2.2.2.2.2.2.1 y_0.2.2.2.2.2.2.2.2.2.2.2.2.2.2.2.2.2.1 y_0.2.2.2.2.2.2.2.2.2.2.2.2.2.2.2.2.2.2.1 y_0.2.2.2.2.2.2.2.2.2.2.2.2.2.2.2.2.2.2.2.1 y_0.2.2.2.2.2.2.2.2.2.2.2.2.2.2.2.2.2.2.2.2.1 lq10 m y_0.2.2.2.2.2.2.2.2.2.2.2.2.2.2.2.2.2.2.2.2.2.1 y_0.2.2.2.2.2.2.2.2.2.2.2.2.2.2.2.2.2.2.2.2.2.2.1 y_0.2.2.2.2.2.2.2.2.2.2.2.2.2.2.2.2.2.2.2.2.2.2.2.1 y_0.2.2.2.2.2.2.2.2.2.2.2.2.2.2.2.2.2.2.2.2.2.2.2.2.1 y_0.2.2.2.2.2.2.2.2.2.2.2.2.2.2.2.2.2.2.2.2.2.2.2.2.2.1 y_0.2.2.2.2.2.2.2.2.2.2.2.2.2.2.2.2.2.2.2.2.2.2.2.2.2.2.1 y_0.2.2.2.2.2.2.2.2.2.2.2.2.2.2.2.2.2.2.2.2.2.2.2.2.2.2.2.1 y_0.2.2.2.2.2.2.2.2.2.2.2.2.2.2.2.2.2.2.2.2.2.2.2.2.2.2.2.2.1 y_0.2.2.2.2.2.2.2.2.2.2.2.2.2.2.2.2.2.2.2.2.2.2.2.2.2.2.2.2.2.1 y_0.2.2.2.2.2.2.2.2.2.2.2.2.2.2.2.2.2.2.2.2.2.2.2.2.2.2.2.2.2.2.1 y_0.2.2.2.2.2.2.2.2.2.2.2.2.2.2.2.2.2.2.2.2.2.2.2.2.2.2.2.2.2.2.2.1 y_0.2.2.2.2.2.2.2.2.2.2.2.2.2.2.2.2.2.2.2.2.2.2.2.2.2.2.2.2.2.2.2.2.1 y_0.2.2.2.2.2.2.2.2.2.2.2.2.2.2.2.2.2.2.2.2.2.2.2.2.2.2.2.2.2.2.2.2.2.1 y_0.2.2.2.2.2.2.2.2.2.2.2.2.2.2.2.2.2.2.2.2.2.2.2.2.2.2.2.2.2.2.2.2.2.2.1 y_0.2.2.2.2.2.2.2.2.2.2.2.2.2.2.2.2.2.2.2.2.2.2.2.2.2.2.2.2.2.2.2.2.2.2.2.1 y_0.2.2.2.2.2.2.2.2.2.2.2.2.2.2.2.2.2.2.2.2.2.2.2.2.2.2.2.2.2.2.2.2.2.2.2.2.1 y_0.2.2.2.2.2.2.2.2.2.2.2.2.2.2.2.2.2.2.2.2.2.2.2.2.2.2.2.2.2.2.2.2.2.2.2.2.2.1 y_0.2.2.2.2.2.2.2.2.2.2.2.2.2.2.2.2.2.2.2.2.2.2.2.2.2.2.2.2.2.2.2.2.2.2.2.2.2.2.1 y_0.2.2.2.2.2.2.2.2.2.2.2.2.2.2.2.2.2.2.2.2.2.2.2.2.2.2.2.2.2.2.2.2.2.2.2.2.2.2.2.1 y_0.2.2.2.2.2.2.2.2.2.2.2.2.2.2.2.2.2.2.2.2.2.2.2.2.2.2.2.2.2.2.2.2.2.2.2.2.2.2.2.2.1 y_0.2.2.2.2.2.2.2.2.2.2.2.2.2.2.2.2.2.2.2.2.2.2.2.2.2.2.2.2.2.2.2.2.2.2.2.2.2.2.2.2.2.1 y_0.2.2.2.2.2.2.2.2.2.2.2.2.2.2.2.2.2.2.2.2.2.2.2.2.2.2.2.2.2.2.2.2.2.2.2.2.2.2.2.2.2.2) fun y_2=>( some (y_2.1,y_2.2.1,y_2.2.2.1,y_2.2.2.2.1,y_2.2.2.2.2.1,y_2.2.2.2.2.2.1,y_2.2.2.2.2.2.2.1,y_2.2.2.2.2.2.2.2.1,y_2.2.2.2.2.2.2.2.2.1,y_2.2.2.2.2.2.2.2.2.2.1,y_2.2.2.2.2.2.2.2.2.2.2) )) )) )) )) )) y_0)
def Za5 (F:Nat) (a:Zcl) (c:(List Int)) (cq2:Bool) (gs:(List (Int×group_node))) (cq4:Int) (tb:Bool) (l:(List Zaa)) (lq7:(List Int)) (lq8:(List Int)) (lq9:(List Zah)) (lq10:(List Zag)) (m:(List (Zae×Int))):Option (Int×(List Int)×Bool×(List (Int×group_node))×Int×Bool×(List Zaa)×(List Int)×(List Int)×(List Zah)×(List Zag)) :=
 (ZgF F).bind fun y_0=>bif a.Kind==y_0.1 then (Zc0 F a c cq2 gs cq4 tb l lq7 lq8 lq9 lq10 m).bind fun y_1=>some (y_1.1,y_1.2.1,y_1.2.2.1,y_1.2.2.2.1,y_1.2.2.2.2.1,y_1.2.2.2.2.2.1,y_1.2.2.2.2.2.2.1,y_1.2.2.2.2.2.2.2.1,y_1.2.2.2.2.2.2.2.2.1,y_1.2.2.2.2.2.2.2.2.2.1,y_1.2.2.2.2.2.2.2.2.2.2) else bif a.Kind==y_0.2.1 then none else bif a.Kind==y_0.2.2.1 then none else bif a.Kind==y_0.2.2.2.1 then none else bif a.Kind==y_0.2.2.2.2.1 then (Zcn F a c cq2 gs cq4 tb l lq7 lq8 lq9 lq10 m).bind fun y_2=>some (y_2.1,y_2.2.1,y_2.2.2.1,y_2.2.2.2.1,y_2.2.2.2.2.1,y_2.2.2.2.2.2.1,y_2.2.2.2.2.2.2.1,y_2.2.2.2.2.2.2.2.1,y_2.2.2.2.2.2.2.2.2.1,y_2.2.2.2.2.2.2.2.2.2.1,y_2.2.2.2.2.2.2.2.2.2.2) else bif a.Kind==y_0.2.2.2.2.2.1 then none else bif a.Kind==y_0.2.2.2.2.2.2.1 then none else bif a.Kind==y_0.2.2.2.2.2.2.2.1 then none else bif a.Kind==y_0.2.2.2.2.2.2.2.2.1 then none else bif a.Kind==y_0.2.2.2.2.2.2.2.2.2 then none else some ((1:Int),c,cq2,gs,cq4,tb,l,lq7,lq8,lq9,lq10)
def Zce (F:Nat) (id:Int) (c:(List Int)) (cq2:Bool) (gs:(List (Int×group_node))) (cq4:Int) (tb:Bool) (l:(List Zaa)) (lq7:(List Int)) (lq8:(List Int)) (lq9:(List Zah)) (lq10:(List Zag)) (m:(List (Zae×Int))):Option (Zd8×Int×(List (Int×group_node))) :=
 (Option.elim ((mget id gs)) ( some ((Zd8.mk false (0:Int) (0:Int) (0:Int) (0:Int) (0:Int) (0:Int) (0:Int)),(1:Int),gs) ) fun x=>Sum.elim (fun (d_6:group_nodeD)=>( (bif (decide (id=id) && Option.isSome (mget id gs)) then ( (bif Option.isSome (mget id gs) then (some ((Zd8.mk false (0:Int) (0:Int) (0:Int) (0:Int) (0:Int) (0:Int) (0:Int)),(0:Int),(mput id (@Sum.inl group_nodeD group_nodeU d_6) gs))) else none) ) else none) )) (fun (u_7:group_nodeU)=>( (bif (decide (id=id) && Option.isSome (mget id gs)) then ( (bif Option.isSome (mget id gs) then (some ((Zd8.mk true u_7.raft.Role u_7.raft.Term u_7.raft.Vote u_7.raft.Commit u_7.raft.Trail.Base u_7.count u_7.sum),(0:Int),(mput id (@Sum.inr group_nodeD group_nodeU u_7) gs))) else none) ) else none) )) x)
def ZaS (F:Nat) (s:List Zaa):Option (List Zaa) :=
 bif decide (s.length≤LIM) then some s else none
def Za6 (F:Nat) (c:(List Int)) (cq1:Bool) (gs:(List (Int×group_node))) (cq3:Int) (tb:Bool) (l:(List Zaa)) (lq6:(List Int)) (lq7:(List Int)) (lq8:(List Zah)) (lq9:(List Zag)) (m:(List (Zae×Int))):Option (List Zaa) :=
 (ZaS F l).bind fun y_0=>some y_0
def ZbW (F:Nat) (y_0:(Int×(List Int)×Bool×(List (Int×group_node))×Int×Bool×(List Zaa)×(List Int)×(List Int)×(List Zah)×(List Zag)×(List (Zae×Int)))):Nat→Int→(List Int)→Bool→(List (Int×group_node))→Int→Bool→(List Zaa)→(List Int)→(List Int)→(List Zah)→(List Zag)→Option (((List Int)×Bool×(List (Int×group_node))×Int×Bool×(List Zaa)×(List Int)×(List Int)×(List Zah)×(List Zag)))
 | 0,_,_,_,_,_,_,_,_,_,_,_=>none
 | n_20+1,i_21,c_22,c_23,gs_24,c_25,tb_26,l_27,l_28,l_29,l_30,l_31=>bif decide (i_21<(10:Int)) then (Za5 F (Zcl.mk (1:Int) (0:Int) (1:Int) (0:Int) (0:Int) (0:Int) (0:Int) (0:Int) false ([]:List UInt8) (0:Int) (ZdZ.mk (0:Int) (0:Int) (0:Int) ([]:List UInt8) ([]:List UInt8) ([]:List UInt8) ([]:List UInt8) (0:Int)) (ZcV.mk (0:Int) (0:Int) (0:Int) (0:Int) (0:Int) (0:Int) (0:Int) ([]:List UInt8))) c_22 c_23 gs_24 c_25 tb_26 l_27 l_28 l_29 l_30 l_31 y_0.2.2.2.2.2.2.2.2.2.2.2).bind fun y_33=>(ZbW F y_0 n_20 (wrap .i64 (i_21+(1:Int))) y_33.2.1 y_33.2.2.1 y_33.2.2.2.1 y_33.2.2.2.2.1 y_33.2.2.2.2.2.1 y_33.2.2.2.2.2.2.1 y_33.2.2.2.2.2.2.2.1 y_33.2.2.2.2.2.2.2.2.1 y_33.2.2.2.2.2.2.2.2.2.1 y_33.2.2.2.2.2.2.2.2.2.2) else some (c_22,c_23,gs_24,c_25,tb_26,l_27,l_28,l_29,l_30,l_31)
def ZbV (F:Nat) (y_0:(Int×(List Int)×Bool×(List (Int×group_node))×Int×Bool×(List Zaa)×(List Int)×(List Int)×(List Zah)×(List Zag)×(List (Zae×Int)))):Nat→Int→(List Int)→Bool→(List (Int×group_node))→Int→Bool→(List Zaa)→(List Int)→(List Int)→(List Zah)→(List Zag)→Option (((List Int)×Bool×(List (Int×group_node))×Int×Bool×(List Zaa)×(List Int)×(List Int)×(List Zah)×(List Zag)))
 | 0,_,_,_,_,_,_,_,_,_,_,_=>none
 | n_56+1,i_57,c_58,c_59,gs_60,c_61,tb_62,l_63,l_64,l_65,l_66,l_67=>bif decide (i_57<(10:Int)) then (Za5 F (Zcl.mk (1:Int) (0:Int) (1:Int) (0:Int) (0:Int) (0:Int) (0:Int) (0:Int) false ([]:List UInt8) (0:Int) (ZdZ.mk (0:Int) (0:Int) (0:Int) ([]:List UInt8) ([]:List UInt8) ([]:List UInt8) ([]:List UInt8) (0:Int)) (ZcV.mk (0:Int) (0:Int) (0:Int) (0:Int) (0:Int) (0:Int) (0:Int) ([]:List UInt8))) c_58 c_59 gs_60 c_61 tb_62 l_63 l_64 l_65 l_66 l_67 y_0.2.2.2.2.2.2.2.2.2.2.2).bind fun y_69=>(ZbV F y_0 n_56 (wrap .i64 (i_57+(1:Int))) y_69.2.1 y_69.2.2.1 y_69.2.2.2.1 y_69.2.2.2.2.1 y_69.2.2.2.2.2.1 y_69.2.2.2.2.2.2.1 y_69.2.2.2.2.2.2.2.1 y_69.2.2.2.2.2.2.2.2.1 y_69.2.2.2.2.2.2.2.2.2.1 y_69.2.2.2.2.2.2.2.2.2.2) else some (c_58,c_59,gs_60,c_61,tb_62,l_63,l_64,l_65,l_66,l_67)
def ZbX (F:Nat):Option Bool :=
 (Zem F ((1:Int)::[])).bind fun y_0=>(Sum.elim (fun y_0=>( (Option.bind (Zem F []) fun y_1=>( (Sum.elim (fun y_1=>( some false )) (fun y_1=>( some false )) y_1) )) )) (fun y_0=>( (Option.bind (Zem F []) fun y_2=>( (Sum.elim (fun y_2=>( (Option.bind ( (bif (y_0.1 != (0:Int)) then ( some true ) else ( some (y_2 != (1:Int)) )) ) fun t27_3=>( (bif t27_3 then ( some false ) else ( (Option.bind ( (ZbW F y_0 F (0:Int) y_0.2.1 y_0.2.2.1 y_0.2.2.2.1 y_0.2.2.2.2.1 y_0.2.2.2.2.2.1 y_0.2.2.2.2.2.2.1 y_0.2.2.2.2.2.2.2.1 y_0.2.2.2.2.2.2.2.2.1 y_0.2.2.2.2.2.2.2.2.2.1 y_0.2.2.2.2.2.2.2.2.2.2.1) ) fun (c_8,c_9,gs_10,c_11,tb_12,l_13,l_14,l_15,l_16,l_17)=>( (Option.bind (Za5 F (Zcl.mk (5:Int) (0:Int) (1:Int) (0:Int) (0:Int) (0:Int) (0:Int) (0:Int) false ([120]:List UInt8) (0:Int) (ZdZ.mk (0:Int) (0:Int) (0:Int) ([]:List UInt8) ([]:List UInt8) ([]:List UInt8) ([]:List UInt8) (0:Int)) (ZcV.mk (0:Int) (0:Int) (0:Int) (0:Int) (0:Int) (0:Int) (0:Int) ([]:List UInt8))) c_8 c_9 gs_10 c_11 tb_12 l_13 l_14 l_15 l_16 l_17 y_0.2.2.2.2.2.2.2.2.2.2.2) fun y_34=>( (Option.bind (Zce F (1:Int) y_34.2.1 y_34.2.2.1 y_34.2.2.2.1 y_34.2.2.2.2.1 y_34.2.2.2.2.2.1 y_34.2.2.2.2.2.2.1 y_34.2.2.2.2.2.2.2.1 y_34.2.2.2.2.2.2.2.2.1 y_34.2.2.2.2.2.2.2.2.2.1 y_34.2.2.2.2.2.2.2.2.2.2 y_0.2.2.2.2.2.2.2.2.2.2.2) fun y_35=>( (bif (y_34.1==(0:Int)) then ( (bif y_35.1.Up then ( (bif (y_35.1.Role==(2:Int)) then ( (bif (y_35.1.Term==(1:Int)) then ( (bif (y_35.1.Commit==(2:Int)) then ( (bif (y_35.1.Count==(1:Int)) then ( (Option.bind (Za6 F y_34.2.1 y_34.2.2.1 y_35.2.2 y_34.2.2.2.2.1 y_34.2.2.2.2.2.1 y_34.2.2.2.2.2.2.1 y_34.2.2.2.2.2.2.2.1 y_34.2.2.2.2.2.2.2.2.1 y_34.2.2.2.2.2.2.2.2.2.1 y_34.2.2.2.2.2.2.2.2.2.2 y_0.2.2.2.2.2.2.2.2.2.2.2) fun y_36=>( (bif ((y_36.length:Int)==(2:Int)) then ( (Option.bind (Za6 F y_34.2.1 y_34.2.2.1 y_35.2.2 y_34.2.2.2.2.1 y_34.2.2.2.2.2.1 y_34.2.2.2.2.2.2.1 y_34.2.2.2.2.2.2.2.1 y_34.2.2.2.2.2.2.2.2.1 y_34.2.2.2.2.2.2.2.2.2.1 y_34.2.2.2.2.2.2.2.2.2.2 y_0.2.2.2.2.2.2.2.2.2.2.2) fun y_37=>( (Option.bind ((y_37)[(Int.toNat (1:Int))]?) fun y_38=>( (Option.bind ((y_37)[(Int.toNat (1:Int))]?) fun y_39=>( (bif ((y_39.Term==(1:Int)) && ((y_39.Data==([120]:List UInt8)) && true)) then ( (Option.bind (Za5 F (Zcl.mk (99:Int) (0:Int) (0:Int) (0:Int) (0:Int) (0:Int) (0:Int) (0:Int) false ([]:List UInt8) (0:Int) (ZdZ.mk (0:Int) (0:Int) (0:Int) ([]:List UInt8) ([]:List UInt8) ([]:List UInt8) ([]:List UInt8) (0:Int)) (ZcV.mk (0:Int) (0:Int) (0:Int) (0:Int) (0:Int) (0:Int) (0:Int) ([]:List UInt8))) y_34.2.1 y_34.2.2.1 y_35.2.2 y_34.2.2.2.2.1 y_34.2.2.2.2.2.1 y_34.2.2.2.2.2.2.1 y_34.2.2.2.2.2.2.2.1 y_34.2.2.2.2.2.2.2.2.1 y_34.2.2.2.2.2.2.2.2.2.1 y_34.2.2.2.2.2.2.2.2.2.2 y_0.2.2.2.2.2.2.2.2.2.2.2) fun y_40=>( some (y_40.1==(1:Int)) )) ) else ( some false )) )) )) )) ) else ( some false )) )) ) else ( some false )) ) else ( some false )) ) else ( some false )) ) else ( some false )) ) else ( some false )) ) else ( some false )) )) )) )) )) )) )) (fun y_2=>( (Option.bind ( (bif (y_0.1 != (0:Int)) then ( some true ) else ( some (y_2.1 != (1:Int)) )) ) fun t27_41=>( (bif t27_41 then ( some false ) else ( (Option.bind ( (ZbV F y_0 F (0:Int) y_0.2.1 y_0.2.2.1 y_0.2.2.2.1 y_0.2.2.2.2.1 y_0.2.2.2.2.2.1 y_0.2.2.2.2.2.2.1 y_0.2.2.2.2.2.2.2.1 y_0.2.2.2.2.2.2.2.2.1 y_0.2.2.2.2.2.2.2.2.2.1 y_0.2.2.2.2.2.2.2.2.2.2.1) ) fun (c_44,c_45,gs_46,c_47,tb_48,l_49,l_50,l_51,l_52,l_53)=>( (Option.bind (Za5 F (Zcl.mk (5:Int) (0:Int) (1:Int) (0:Int) (0:Int) (0:Int) (0:Int) (0:Int) false ([120]:List UInt8) (0:Int) (ZdZ.mk (0:Int) (0:Int) (0:Int) ([]:List UInt8) ([]:List UInt8) ([]:List UInt8) ([]:List UInt8) (0:Int)) (ZcV.mk (0:Int) (0:Int) (0:Int) (0:Int) (0:Int) (0:Int) (0:Int) ([]:List UInt8))) c_44 c_45 gs_46 c_47 tb_48 l_49 l_50 l_51 l_52 l_53 y_0.2.2.2.2.2.2.2.2.2.2.2) fun y_70=>( (Option.bind (Zce F (1:Int) y_70.2.1 y_70.2.2.1 y_70.2.2.2.1 y_70.2.2.2.2.1 y_70.2.2.2.2.2.1 y_70.2.2.2.2.2.2.1 y_70.2.2.2.2.2.2.2.1 y_70.2.2.2.2.2.2.2.2.1 y_70.2.2.2.2.2.2.2.2.2.1 y_70.2.2.2.2.2.2.2.2.2.2 y_0.2.2.2.2.2.2.2.2.2.2.2) fun y_71=>( (bif (y_70.1==(0:Int)) then ( (bif y_71.1.Up then ( (bif (y_71.1.Role==(2:Int)) then ( (bif (y_71.1.Term==(1:Int)) then ( (bif (y_71.1.Commit==(2:Int)) then ( (bif (y_71.1.Count==(1:Int)) then ( (Option.bind (Za6 F y_70.2.1 y_70.2.2.1 y_71.2.2 y_70.2.2.2.2.1 y_70.2.2.2.2.2.1 y_70.2.2.2.2.2.2.1 y_70.2.2.2.2.2.2.2.1 y_70.2.2.2.2.2.2.2.2.1 y_70.2.2.2.2.2.2.2.2.2.1 y_70.2.2.2.2.2.2.2.2.2.2 y_0.2.2.2.2.2.2.2.2.2.2.2) fun y_72=>( (bif ((y_72.length:Int)==(2:Int)) then ( (Option.bind (Za6 F y_70.2.1 y_70.2.2.1 y_71.2.2 y_70.2.2.2.2.1 y_70.2.2.2.2.2.1 y_70.2.2.2.2.2.2.1 y_70.2.2.2.2.2.2.2.1 y_70.2.2.2.2.2.2.2.2.1 y_70.2.2.2.2.2.2.2.2.2.1 y_70.2.2.2.2.2.2.2.2.2.2 y_0.2.2.2.2.2.2.2.2.2.2.2) fun y_73=>( (Option.bind ((y_73)[(Int.toNat (1:Int))]?) fun y_74=>( (Option.bind ((y_73)[(Int.toNat (1:Int))]?) fun y_75=>( (bif ((y_75.Term==(1:Int)) && ((y_75.Data==([120]:List UInt8)) && true)) then ( (Option.bind (Za5 F (Zcl.mk (99:Int) (0:Int) (0:Int) (0:Int) (0:Int) (0:Int) (0:Int) (0:Int) false ([]:List UInt8) (0:Int) (ZdZ.mk (0:Int) (0:Int) (0:Int) ([]:List UInt8) ([]:List UInt8) ([]:List UInt8) ([]:List UInt8) (0:Int)) (ZcV.mk (0:Int) (0:Int) (0:Int) (0:Int) (0:Int) (0:Int) (0:Int) ([]:List UInt8))) y_70.2.1 y_70.2.2.1 y_71.2.2 y_70.2.2.2.2.1 y_70.2.2.2.2.2.1 y_70.2.2.2.2.2.2.1 y_70.2.2.2.2.2.2.2.1 y_70.2.2.2.2.2.2.2.2.1 y_70.2.2.2.2.2.2.2.2.2.1 y_70.2.2.2.2.2.2.2.2.2.2 y_0.2.2.2.2.2.2.2.2.2.2.2) fun y_76=>( some (y_76.1==(1:Int)) )) ) else ( some false )) )) )) )) ) else ( some false )) )) ) else ( some false )) ) else ( some false )) ) else ( some false )) ) else ( some false )) ) else ( some false )) ) else ( some false )) )) )) )) )) )) )) y_2) )) )) y_0)
def Zbn (F:Nat) (body:(List UInt8)):Nat→Int→Int→Option ((((Int×Bool)) ⊕ Unit))
 | 0,_,_=>none
 | n_22+1,i_23,left_24=>bif decide (i_23<(body.length:Int)) then bif decide ((0:Int)≤i_23) then body[i_23.toNat]?.bind fun y_29=>Option.bind (bif decide ((UInt8.toNat y_29:Int)<(128:Int)) then some (wrap .i64 (left_24 - (1:Int))) else some left_24) fun left_30=>bif left_30==(0:Int) then bif decide ((0:Int)≤i_23) then body[i_23.toNat]?.bind fun y_31=>bif decide ((0:Int)<i_23) then bif decide ((0:Int)≤(wrap .i64 (i_23 - (1:Int)))) then body[(Int.toNat (wrap .i64 (i_23 - (1:Int))))]?.bind fun y_32=>some (Sum.inl ((wrap .i64 (UInt8.toNat y_31:Int)),(decide ((UInt8.toNat y_32:Int)<(128:Int))))) else none else some (Sum.inl ((wrap .i64 (UInt8.toNat y_31:Int)),false)) else none else (Zbn F body n_22 (wrap .i64 (i_23+(1:Int))) left_30) else none else some (Sum.inr ())
def ZcD (F:Nat) (body:(List UInt8)):Option (Int×Bool) :=
 Option.bind (
 (Zbn F body F (0:Int) (9:Int))
 ) fun o4=>Sum.elim (fun r=>some r) (fun _=>(
 some ((0:Int),false)
 )) o4
def Zbm (F:Nat) (f:(List Zac)) (n:Int):Nat→Int→(List Zaa)→Option ((List Zaa))
 | 0,_,_=>none
 | n_22+1,t49_23,l_24=>bif decide (t49_23<n) then bif decide ((0:Int)≤(wrap .i64 ((9:Int)+(wrap .i64 ((2:Int) * t49_23))))) then f[(Int.toNat (wrap .i64 ((9:Int)+(wrap .i64 ((2:Int) * t49_23)))))]?.bind fun y_27=>bif decide ((0:Int)≤(wrap .i64 ((10:Int)+(wrap .i64 ((2:Int) * t49_23))))) then f[(Int.toNat (wrap .i64 ((10:Int)+(wrap .i64 ((2:Int) * t49_23)))))]?.bind fun y_28=>bif decide (((l_24.length)+1)≤LIM) then (Zbm F f n n_22 (wrap .i64 (t49_23+(1:Int))) (l_24++((Zaa.mk y_27.N y_28.S)::[]))) else none else none else none else some l_24
def Zdk (F:Nat) (f:(List Zac)) (n:Int):Option (Int×Int×Int×Int×Int×Int×Int×Bool×(List UInt8)×(List Zaa)) :=
 f[(Int.toNat (0:Int))]?.bind fun y_0=>f[(Int.toNat (1:Int))]?.bind fun y_1=>f[(Int.toNat (2:Int))]?.bind fun y_2=>f[(Int.toNat (3:Int))]?.bind fun y_3=>f[(Int.toNat (4:Int))]?.bind fun y_4=>f[(Int.toNat (5:Int))]?.bind fun y_5=>f[(Int.toNat (6:Int))]?.bind fun y_6=>f[(Int.toNat (7:Int))]?.bind fun y_7=>bif decide ((0:Int)≤(wrap .i64 ((f.length:Int) - (1:Int)))) then f[(Int.toNat (wrap .i64 ((List.length (List.map Zac.c f):Int) - (1:Int))))]?.bind fun y_8=>((Zbm F f n F (0:Int) [])).bind fun l_17=>some (y_0.N,y_1.N,y_2.N,y_3.N,y_4.N,y_5.N,y_6.N,(y_7.N==(1:Int)),y_8.S,l_17) else none
def ZbB (F:Nat) (y_0:(Int×Bool)):Nat→Int→(List Int)→Option ((List Int))
 | 0,_,_=>none
 | n_2+1,t19_3,l_4=>bif decide (t19_3<y_0.1) then bif decide (((l_4.length)+2)≤LIM) then (ZbB F y_0 n_2 (wrap .i64 (t19_3+(1:Int))) (l_4++((1:Int)::((3:Int)::[])))) else none else some l_4
def Zb5 (F:Nat) (body:(List UInt8)):Option (Zad×Int) :=
 (ZcD F body).bind fun y_0=>bif !y_0.2 then some ((Zad.mk (0:Int) (0:Int) (0:Int) (0:Int) (0:Int) (0:Int) (0:Int) false [] ([]:List UInt8)),(21:Int)) else ((ZbB F y_0 F (0:Int) ((1:Int)::((1:Int)::((1:Int)::((1:Int)::((1:Int)::((1:Int)::((1:Int)::((1:Int)::((1:Int)::[]))))))))))).bind fun l_1=>bif decide (((l_1.length)+1)≤LIM) then bif decide ((body.length)≤LIM) then (ZcY F (l_1++((3:Int)::[])) (List.map (fun (b_14:UInt8)=>(((UInt8.toNat b_14):Nat):Int)) body)).bind fun y_5=>Option.bind (bif y_5.1 != (0:Int) then some true else ((y_5.2)[(Int.toNat (7:Int))]?).bind fun y_8=>some (decide ((1:Int)<y_8.N))) fun t42_7=>bif t42_7 then some ((Zad.mk (0:Int) (0:Int) (0:Int) (0:Int) (0:Int) (0:Int) (0:Int) false [] ([]:List UInt8)),(21:Int)) else (Zdk F y_5.2 y_0.1).bind fun y_9=>some ((Zad.mk y_9.1 y_9.2.1 y_9.2.2.1 y_9.2.2.2.1 y_9.2.2.2.2.1 y_9.2.2.2.2.2.1 y_9.2.2.2.2.2.2.1 y_9.2.2.2.2.2.2.2.1 y_9.2.2.2.2.2.2.2.2.2 y_9.2.2.2.2.2.2.2.2.1),(0:Int)) else none else none
def ZaO (F:Nat) (b:(List Int)) (at_:Int):Nat→Int→Option ((((Int×Int×Int)) ⊕ Int))
 | 0,_=>none
 | n_7+1,end__8=>Option.bind (bif decide (end__8<(b.length:Int)) then bif decide ((0:Int)≤end__8) then b[end__8.toNat]?.bind fun y_11=>some (decide ((127:Int)<y_11)) else none else some false) fun t22_10=>bif t22_10 then bif decide ((9:Int)<(wrap .i64 ((wrap .i64 (end__8+(1:Int))) - at_))) then some (Sum.inl ((0:Int),(0:Int),(21:Int))) else (ZaO F b at_ n_7 (wrap .i64 (end__8+(1:Int)))) else some (Sum.inr end__8)
def Zan (F:Nat) (b:(List Int)) (at_:Int) (end__4:Int):Nat→Int→Option ((((Int×Int×Int)) ⊕ Unit))
 | 0,_=>none
 | n_24+1,i_25=>bif decide (i_25<end__4) then Option.bind (bif decide ((0:Int)≤i_25) then b[i_25.toNat]?.bind fun y_30=>bif y_30==(0:Int) then some true else some ((wrap .i64 (i_25 - at_))==(9:Int)) else none) fun t50_29=>bif t50_29 then some (Sum.inl ((0:Int),(0:Int),(21:Int))) else (Zan F b at_ end__4 n_24 (wrap .i64 (i_25+(1:Int)))) else some (Sum.inr ())
def ZaD (F:Nat) (b:(List Int)) (at_:Int):Nat→Int→Int→Option (Int)
 | 0,_,_=>none
 | n_45+1,n_46,i_47=>bif decide (at_≤i_47) then bif decide ((0:Int)≤i_47) then b[i_47.toNat]?.bind fun y_49=>(ZaD F b at_ n_45 (wrap .u64 ((wrap .u64 (n_46 * (128:Int)))+(@Int.tmod (wrap .u64 y_49) (128:Int)))) (wrap .i64 (i_47 - (1:Int)))) else none else some n_46
def ZaK (F:Nat) (b:(List Int)) (at_:Int):Option (Int×Int×Int) :=
 Option.bind (
 (ZaO F b at_ F at_)
 ) fun o2=>Sum.elim (fun r=>some r) (fun end__4=>(
 (bif (end__4==(b.length:Int)) then (
 (Option.bind (
 (Zan F b at_ end__4 F (wrap .i64 (at_+(1:Int))))
 ) fun o7=>Sum.elim (fun r=>some r) (fun _=>(
 some ((0:Int),(0:Int),(20:Int))
 )) o7)
 ) else (
 (Option.bind (
 (bif (decide (at_<end__4)) then (
 (bif decide ((0:Int)≤end__4) then (
 (Option.bind ((b)[end__4.toNat]?) fun y_35=>(
 (bif (y_35==(0:Int)) then (
 some true
 ) else (
 (bif ((wrap .i64 (end__4 - at_))==(9:Int)) then (
 (bif decide ((0:Int)≤end__4) then (
 (Option.bind ((b)[end__4.toNat]?) fun y_36=>(
 some (decide ((1:Int)<y_36))
 ))
 ) else none)
 ) else (
 some false
 ))
 ))
 ))
 ) else none)
 ) else (
 (bif ((wrap .i64 (end__4 - at_))==(9:Int)) then (
 (bif decide ((0:Int)≤end__4) then (
 (Option.bind ((b)[end__4.toNat]?) fun y_37=>(
 some (decide ((1:Int)<y_37))
 ))
 ) else none)
 ) else (
 some false
 ))
 ))
 ) fun t73_34=>(
 (bif t73_34 then (
 some ((0:Int),(0:Int),(21:Int))
 ) else (
 (Option.bind (
 (ZaD F b at_ F (0:Int) end__4)
 ) fun n_42=>(
 some (n_42,(wrap .i64 (end__4+(1:Int))),(0:Int))
 ))
 ))
 ))
 ))
 )) o2
def Zar (F:Nat) (kinds:(List Int)) (b:(List Int)):Nat→Int→Int→(List Zac)→Option ((((Int×(List Zac))) ⊕ (Int×(List Zac))))
 | 0,_,_,_=>none
 | n_38+1,at__39,i_40,l_41=>bif decide (i_40<(kinds.length:Int)) then bif decide ((0:Int)≤i_40) then kinds[i_40.toNat]?.bind fun y_48=>Option.bind (bif decide (y_48<(1:Int)) then some true else some (decide ((3:Int)<y_48))) fun t31_49=>bif t31_49 then some (Sum.inl ((1:Int),[])) else (ZaK F b at__39).bind fun y_50=>bif y_50.2.2 != (0:Int) then some (Sum.inl (y_50.2.2,[])) else Option.bind (
 (bif (y_48==(1:Int)) then (
 (bif (decide ((9223372036854775807:Int)<y_50.1)) then (
 some (Sum.inl ((21:Int),[]))
 ) else (
 some (Sum.inr (y_50.2.1,(wrap .i64 y_50.1),([]:List UInt8)))
 ))
 ) else (
 (bif (y_48==(2:Int)) then (
 (bif ((@Int.tmod y_50.1 (2:Int))==(1:Int)) then (
 some (Sum.inr (y_50.2.1,(wrap .i64 ((wrap .i64 ((0:Int) - (wrap .i64 (wrap .u64 (@Int.tdiv y_50.1 (2:Int)))))) - (1:Int))),([]:List UInt8)))
 ) else (
 some (Sum.inr (y_50.2.1,(wrap .i64 (wrap .u64 (@Int.tdiv y_50.1 (2:Int)))),([]:List UInt8)))
 ))
 ) else (
 (bif (y_48==(3:Int)) then (
 (bif (decide ((65536:Int)<y_50.1)) then (
 some (Sum.inl ((21:Int),[]))
 ) else (
 (bif (decide ((wrap .i64 ((b.length:Int) - y_50.2.1))<(wrap .i64 y_50.1))) then (
 some (Sum.inl ((20:Int),[]))
 ) else (
 (bif decide ((0:Int)≤y_50.2.1) then (
 (bif decide ((0:Int)≤(wrap .i64 (y_50.2.1+(wrap .i64 y_50.1)))) then (
 (bif decide ((Int.toNat y_50.2.1)≤(Int.toNat (wrap .i64 (y_50.2.1+(wrap .i64 y_50.1))))) then (
 (bif decide ((Int.toNat (wrap .i64 (y_50.2.1+(wrap .i64 y_50.1))))≤(b.length)) then (
 (bif ZdY (List.drop (Int.toNat y_50.2.1) (List.take (Int.toNat (wrap .i64 (y_50.2.1+(wrap .i64 y_50.1)))) b)) then (
 some (Sum.inr ((wrap .i64 (y_50.2.1+(wrap .i64 y_50.1))),(0:Int),(@toBytes (List.drop (Int.toNat y_50.2.1) (List.take (Int.toNat (wrap .i64 (y_50.2.1+(wrap .i64 y_50.1)))) b)))))
 ) else none)
 ) else none)
 ) else none)
 ) else none)
 ) else none)
 ))
 ))
 ) else (
 some (Sum.inr (y_50.2.1,(0:Int),([]:List UInt8)))
 ))
 ))
 ))
 ) fun o16=>Sum.elim (fun r=>some (Sum.inl r)) (fun (at__51,c_52,c_53)=>(
 (bif decide (((l_41.length)+1)≤LIM) then (
 (Zar F kinds b n_38 at__51 (wrap .i64 (i_40+(1:Int))) (l_41++((Zac.mk y_48 c_52 c_53)::[])))
 ) else none)
 )) o16 else none else some (Sum.inr (at__39,l_41))
def Zbl (F:Nat) (kinds:(List Int)) (b:(List Int)):Option (Int×(List Zac)) :=
 Option.bind (
 (Zar F kinds b F (0:Int) (0:Int) [])
 ) fun o8=>Sum.elim (fun r=>some r) (fun (at__24,l_25)=>(
 (bif (decide (at__24<(b.length:Int))) then (
 some ((21:Int),[])
 ) else (
 some ((0:Int),l_25)
 ))
 )) o8
def ZaN (F:Nat) (n_56:Int) (y_77:(Int×(List Zac))):Nat→Int→(List Zaa)→Option ((List Zaa))
 | 0,_,_=>none
 | n_101+1,i_102,l_103=>bif decide (i_102<n_56) then bif decide ((0:Int)≤(wrap .i64 ((9:Int)+(wrap .i64 ((2:Int) * i_102))))) then ((y_77.2)[(Int.toNat (wrap .i64 ((9:Int)+(wrap .i64 ((2:Int) * i_102)))))]?).bind fun y_106=>bif decide ((0:Int)≤(wrap .i64 ((10:Int)+(wrap .i64 ((2:Int) * i_102))))) then ((y_77.2)[(Int.toNat (wrap .i64 ((10:Int)+(wrap .i64 ((2:Int) * i_102)))))]?).bind fun y_107=>bif decide (((l_103.length)+1)≤LIM) then (ZaN F n_56 y_77 n_101 (wrap .i64 (i_102+(1:Int))) (l_103++((Zaa.mk y_106.N y_107.S)::[]))) else none else none else none else some l_103
def Zaq (F:Nat) (body:(List UInt8)):Nat→Int→(List Int)→Option ((((Int×Int×Int×Int×Int×Int×Int×Bool×(List UInt8)×Int×(List Zaa))) ⊕ Unit))
 | 0,_,_=>none
 | n_55+1,n_56,l_57=>Option.bind (bif decide (n_56≤(127:Int)) then some (decide (n_56≤(body.length:Int))) else some false) fun t19_58=>bif t19_58 then Option.bind (
 (bif decide ((0+(l_57.length))≤LIM) then (
 (bif decide (((l_57.length)+1)≤LIM) then (
 (bif decide ((body.length)≤LIM) then (
 (Option.bind (Zbl F (([]++l_57)++((3:Int)::[])) (List.map (fun (b_14:UInt8)=>(((UInt8.toNat b_14):Nat):Int)) body)) fun y_77=>(
 (Option.bind (
 (bif (y_77.1==(0:Int)) then (
 (Option.bind ((y_77.2)[(Int.toNat (8:Int))]?) fun y_81=>(
 (bif (y_81.N==n_56) then (
 (Option.bind ((y_77.2)[(Int.toNat (7:Int))]?) fun y_82=>(
 some (decide (y_82.N<(2:Int)))
 ))
 ) else (
 some false
 ))
 ))
 ) else (
 some false
 ))
 ) fun t51_80=>(
 (bif t51_80 then (
 (Option.bind ((y_77.2)[(Int.toNat (0:Int))]?) fun y_83=>(
 (Option.bind ((y_77.2)[(Int.toNat (1:Int))]?) fun y_84=>(
 (Option.bind ((y_77.2)[(Int.toNat (2:Int))]?) fun y_85=>(
 (Option.bind ((y_77.2)[(Int.toNat (3:Int))]?) fun y_86=>(
 (Option.bind ((y_77.2)[(Int.toNat (4:Int))]?) fun y_87=>(
 (Option.bind ((y_77.2)[(Int.toNat (5:Int))]?) fun y_88=>(
 (Option.bind ((y_77.2)[(Int.toNat (6:Int))]?) fun y_89=>(
 (Option.bind ((y_77.2)[(Int.toNat (7:Int))]?) fun y_90=>(
 (bif decide ((0:Int)≤(wrap .i64 ((y_77.2.length:Int) - (1:Int)))) then (
 (Option.bind ((y_77.2)[(Int.toNat (wrap .i64 ((List.length (List.map Zac.c y_77.2):Int) - (1:Int))))]?) fun y_91=>(
 (Option.bind (
 (ZaN F n_56 y_77 F (0:Int) [])
 ) fun l_96=>(
 some (Sum.inl (y_83.N,y_84.N,y_85.N,y_86.N,y_87.N,y_88.N,y_89.N,(y_90.N==(1:Int)),y_91.S,(0:Int),l_96))
 ))
 ))
 ) else none)
 ))
 ))
 ))
 ))
 ))
 ))
 ))
 ))
 ) else (
 (bif decide (((l_57.length)+1)≤LIM) then (
 (bif decide ((((l_57.length)+1)+1)≤LIM) then (
 some (Sum.inr ())
 ) else none)
 ) else none)
 ))
 ))
 ))
 ) else none)
 ) else none)
 ) else none)
 ) fun o15=>Sum.elim (fun r=>some (Sum.inl r)) (fun _=>(
 (Zaq F body n_55 (wrap .i64 (n_56+(1:Int))) ((l_57++((1:Int)::[]))++((3:Int)::[])))
 )) o15 else some (Sum.inr ())
def Zbk (F:Nat) (body:(List UInt8)):Option (Int×Int×Int×Int×Int×Int×Int×Bool×(List UInt8)×Int×(List Zaa)) :=
 Option.bind (
 (Zaq F body F (0:Int) ((1:Int)::((1:Int)::((1:Int)::((1:Int)::((1:Int)::((1:Int)::((1:Int)::((1:Int)::((1:Int)::[]))))))))))
 ) fun o7=>Sum.elim (fun r=>some r) (fun _=>(
 some ((0:Int),(0:Int),(0:Int),(0:Int),(0:Int),(0:Int),(0:Int),false,([]:List UInt8),(21:Int),[])
 )) o7
def ZaE (F:Nat):Nat→Int→(List Int)→Option ((Int×(List Int)))
 | 0,_,_=>none
 | n_2+1,n_3,l_4=>bif decide ((127:Int)<n_3) then bif decide (((l_4.length)+1)≤LIM) then (ZaE F n_2 (wrap .u64 (@Int.tdiv n_3 (128:Int))) (l_4++((wrap .u8 (wrap .u64 ((128:Int)+(@Int.tmod n_3 (128:Int)))))::[]))) else none else some (n_3,l_4)
def ZaW (F:Nat) (n:Int) (l:(List Int)):Option (List Int) :=
 ((ZaE F F n l)).bind fun (n_0,l_1)=>bif decide (((l_1.length)+1)≤LIM) then some (l_1++((wrap .u8 n_0)::[])) else none
def ZaP (F:Nat) (list:(List Zac)):Nat→Int→(List Int)→Option ((((Int×(List Int))) ⊕ (List Int)))
 | 0,_,_=>none
 | n_19+1,i_20,l_21=>bif decide (i_20<(list.length:Int)) then Option.bind (
 (bif decide ((0:Int)≤i_20) then (
 (Option.bind ((list)[i_20.toNat]?) fun y_28=>(
 (bif (y_28.Kind==(1:Int)) then (
 (bif (decide (y_28.N<(0:Int))) then (
 some (Sum.inl ((1:Int),[]))
 ) else (
 (Option.bind (ZaW F (wrap .u64 y_28.N) l_21) fun y_29=>(
 some (Sum.inr y_29)
 ))
 ))
 ) else (
 (bif (y_28.Kind==(2:Int)) then (
 (bif (decide (y_28.N<(0:Int))) then (
 (Option.bind (ZaW F (wrap .u64 ((wrap .u64 ((2:Int) * (wrap .u64 (wrap .i64 ((0:Int) - (wrap .i64 (y_28.N+(1:Int))))))))+(1:Int))) l_21) fun y_30=>(
 some (Sum.inr y_30)
 ))
 ) else (
 (Option.bind (ZaW F (wrap .u64 ((2:Int) * (wrap .u64 y_28.N))) l_21) fun y_31=>(
 some (Sum.inr y_31)
 ))
 ))
 ) else (
 (bif (y_28.Kind==(3:Int)) then (
 (bif (decide ((65536:Int)<(y_28.S.length:Int))) then (
 some (Sum.inl ((1:Int),[]))
 ) else (
 (Option.bind (ZaW F (wrap .u64 (y_28.S.length:Int)) l_21) fun y_32=>(
 (bif decide (((y_32.length)+(y_28.S.length))≤LIM) then (
 some (Sum.inr (y_32++(List.map (fun (b_14:UInt8)=>(((UInt8.toNat b_14):Nat):Int)) y_28.S)))
 ) else none)
 ))
 ))
 ) else (
 some (Sum.inl ((1:Int),[]))
 ))
 ))
 ))
 ))
 ) else none)
 ) fun o4=>Sum.elim (fun r=>some (Sum.inl r)) (fun l_27=>(
 (ZaP F list n_19 (wrap .i64 (i_20+(1:Int))) l_27)
 )) o4 else some (Sum.inr l_21)
def ZbM (F:Nat) (list:(List Zac)):Option (Int×(List Int)) :=
 Option.bind (
 (ZaP F list F (0:Int) [])
 ) fun o2=>Sum.elim (fun r=>some r) (fun l_12=>(
 some ((0:Int),l_12)
 )) o2
def Za2 (F:Nat) (m:Zad) (yes_0:Int):Nat→Int→(List Zac)→Option ((List Zac))
 | 0,_,_=>none
 | n_10+1,i_11,l_12=>bif decide (i_11<(List.length (m.Kind::(m.From::(m.To::(m.Term::(m.Index::(m.LogTerm::(m.Commit::(yes_0::((List.length (List.map Zaa.c m.Entries):Int)::[]))))))))):Int)) then bif decide ((0:Int)≤i_11) then (((m.Kind::(m.From::(m.To::(m.Term::(m.Index::(m.LogTerm::(m.Commit::(yes_0::((List.length (List.map Zaa.c m.Entries):Int)::[]))))))))))[i_11.toNat]?).bind fun y_15=>(((m.Kind::(m.From::(m.To::(m.Term::(m.Index::(m.LogTerm::(m.Commit::(yes_0::((List.length (List.map Zaa.c m.Entries):Int)::[]))))))))))[i_11.toNat]?).bind fun y_16=>bif decide (((l_12.length)+1)≤LIM) then (Za2 F m yes_0 n_10 (wrap .i64 (i_11+(1:Int))) (l_12++((Zac.mk (1:Int) y_16 ([]:List UInt8))::[]))) else none else none else some l_12
def Za1 (F:Nat) (m:Zad):Nat→Int→(List Zac)→Option ((List Zac))
 | 0,_,_=>none
 | n_30+1,i_31,l_32=>bif decide (i_31<(m.Entries.length:Int)) then bif decide ((0:Int)≤i_31) then ((m.Entries)[i_31.toNat]?).bind fun y_35=>bif decide (((l_32.length)+1)≤LIM) then bif decide ((0:Int)≤i_31) then ((m.Entries)[i_31.toNat]?).bind fun y_36=>bif decide ((((l_32.length)+1)+1)≤LIM) then (Za1 F m n_30 (wrap .i64 (i_31+(1:Int))) ((l_32++((Zac.mk (1:Int) y_35.Term ([]:List UInt8))::[]))++((Zac.mk (3:Int) (0:Int) y_36.Data)::[]))) else none else none else none else none else some l_32
def Zcj (F:Nat) (m:Zad):Option (List UInt8) :=
 bif decide ((127:Int)<(m.Entries.length:Int)) then some ([]:List UInt8) else Option.bind (bif m.Yes then some (1:Int) else some (0:Int)) fun yes_0=>((Za2 F m yes_0 F (0:Int) [])).bind fun l_5=>((Za1 F m F (0:Int) l_5)).bind fun l_25=>bif decide (((l_25.length)+1)≤LIM) then (ZbM F (l_25++((Zac.mk (3:Int) (0:Int) m.Data)::[]))).bind fun y_37=>bif y_37.1 != (0:Int) then some ([]:List UInt8) else bif ZdY y_37.2 then some (@toBytes y_37.2) else none else none
def ZaJ (F:Nat) (a:(List Zaa)) (b:(List Zaa)):Nat→Int→Option (((Bool) ⊕ Unit))
 | 0,_=>none
 | n_12+1,i_13=>bif decide (i_13<(a.length:Int)) then bif decide ((0:Int)≤i_13) then a[i_13.toNat]?.bind fun y_16=>bif decide ((0:Int)≤i_13) then b[i_13.toNat]?.bind fun y_17=>bif !((y_16.Term==y_17.Term) && ((y_16.Data==y_17.Data) && true)) then some (Sum.inl false) else (ZaJ F a b n_12 (wrap .i64 (i_13+(1:Int)))) else none else none else some (Sum.inr ())
def Zb9 (F:Nat) (a:(List Zaa)) (b:(List Zaa)):Option Bool :=
 bif (a.length:Int) != (b.length:Int) then some false else Option.bind (
 (ZaJ F a b F (0:Int))
 ) fun o0=>Sum.elim (fun r=>some r) (fun _=>(
 some true
 )) o0
def ZaH (F:Nat) (a:Zad) (b:Zad):Option Bool :=
 bif a.Kind==b.Kind then bif a.From==b.From then bif a.To==b.To then bif a.Term==b.Term then bif a.Index==b.Index then bif a.LogTerm==b.LogTerm then bif a.Commit==b.Commit then bif a.Yes==b.Yes then (Zb9 F a.Entries b.Entries).bind fun y_0=>bif y_0 then some (a.Data==b.Data) else some false else some false else some false else some false else some false else some false else some false else some false else some false
def ZbE (F:Nat) (m:Zad) (body:(List UInt8)):Option Bool :=
 (ZbX F).bind fun y_0=>bif !y_0 then some false else (ZdF F m).bind fun y_1=>(Zb5 F body).bind fun y_2=>(Zbk F body).bind fun y_3=>Option.bind ((Zcj F m).bind fun y_7=>bif !(y_1==y_7) then some true else bif y_2.2 != y_3.2.2.2.2.2.2.2.2.2.1 then some true else (ZaH F y_2.1 (Zad.mk y_3.1 y_3.2.1 y_3.2.2.1 y_3.2.2.2.1 y_3.2.2.2.2.1 y_3.2.2.2.2.2.1 y_3.2.2.2.2.2.2.1 y_3.2.2.2.2.2.2.2.1 y_3.2.2.2.2.2.2.2.2.2.2 y_3.2.2.2.2.2.2.2.2.1)).bind fun y_8=>some (!y_8)) fun t40_6=>bif t40_6 then some false else Option.bind (
 (bif (!(y_1==([]:List UInt8))) then (
 (Option.bind (Zb5 F y_1) fun y_12=>(
 (Option.bind (
 (bif (y_12.2 != (0:Int)) then (
 some true
 ) else (
 (Option.bind (ZaH F y_12.1 m) fun y_15=>(
 some (!y_15)
 ))
 ))
 ) fun t55_14=>(
 (bif t55_14 then (
 some (Sum.inl false)
 ) else (
 some (Sum.inr ())
 ))
 ))
 ))
 ) else (
 some (Sum.inr ())
 ))
 ) fun o2=>Sum.elim (fun r=>some r) (fun _=>(
 (bif (y_2.2 != (0:Int)) then (
 some true
 ) else (
 (Option.bind (ZdF F y_2.1) fun y_16=>(
 some (y_16==body)
 ))
 ))
 )) o2
end Go.T
