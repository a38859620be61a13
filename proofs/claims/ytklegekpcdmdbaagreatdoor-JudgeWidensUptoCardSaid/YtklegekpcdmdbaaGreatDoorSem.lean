/-
  SemJw: the typed functions that the program's functions compute. Printed by a program.
-/
import Derived.Test.YtklegekpcdmdbaaGreatDoorTy
set_option linter.unusedVariables false
set_option maxRecDepth 200000
namespace Go.T
open Go Go.Ab
def strings_FieldsFunc (F : Nat) (s : (List UInt8)) : Option (List (List UInt8)) := bif decide (List.length s ≤ LIM ∧ List.length (fieldsS blankP s) ≤ LIM) then some (fieldsS blankP s) else none

def strings_Split (F : Nat) (s sep : (List UInt8)) : Option (List (List UInt8)) := bif decide (List.length s ≤ 1048576000 ∧ 1 ≤ List.length sep) then some (splitS s sep) else none

def strings_Cut (F : Nat) (s sep : (List UInt8)) : Option ((List UInt8) × (List UInt8) × Bool) := bif decide (List.length s < 4294967281) then some (Lib.cut s sep) else none

def strings_Trim (F : Nat) (s cs : (List UInt8)) : Option (List UInt8) := bif decide (List.length s ≤ LIM ∧ List.length cs ≤ LIM ∧ (cs.all fun b => decide (b.toNat < 128)) = true) then some (Lib.trimS s cs) else none

def strconv_Atoi (F : Nat) (s : (List UInt8)) : Option Int := match Lib.atoiAll s with | .ok v => bif decide (List.length s ≤ LIM) then some v else none | _ => none


def cron_number (F : Nat) (s : (List UInt8)) : Option (Int × Bool) :=
  (Option.bind (
    (bif (decide ((@Nat.cast Int instNatCastInt (List.length s)) < (1 : Int))) then (
      some true
    ) else (
      (bif (decide ((4 : Int) < (@Nat.cast Int instNatCastInt (List.length s)))) then (
        some true
      ) else (
        (Option.bind (strings_Trim F s ([48, 49, 50, 51, 52, 53, 54, 55, 56, 57] : List UInt8)) fun y_2 => (
          some (!(y_2 == ([] : List UInt8)))
        ))
      ))
    ))
  ) fun t18_1 => (
    (bif t18_1 then (
      some ((0 : Int), false)
    ) else (
      (Option.bind (strconv_Atoi F s) fun y_3 => (
        some (y_3, true)
      ))
    ))
  ))


def cron_read (F : Nat) (s : (List UInt8)) (f : cron_span) : Option (cron_item × Bool) :=
  (Option.bind (strings_Cut F s ([47] : List UInt8)) fun y_0 => (
    (Option.bind (
      (bif y_0.2.2 then (
        (Option.bind (cron_number F y_0.2.1) fun y_4 => (
          some (y_4.1, y_4.2)
        ))
      ) else (
        some ((1 : Int), true)
      ))
    ) fun (step_2, ok_3) => (
      (bif (y_0.1 == ([42] : List UInt8)) then (
        some ((cron_item.mk f.least f.most step_2), ok_3)
      ) else (
        (Option.bind (strings_Cut F y_0.1 ([45] : List UInt8)) fun y_5 => (
          (Option.bind (cron_number F y_5.1) fun y_6 => (
            (Option.bind (
              (bif y_5.2.2 then (
                (Option.bind (cron_number F y_5.2.1) fun y_10 => (
                  some (y_10.1, y_10.2)
                ))
              ) else (
                some (y_6.1, true)
              ))
            ) fun (to__8, so_9) => (
              (bif ok_3 then (
                (bif y_6.2 then (
                  (bif so_9 then (
                    (bif y_5.2.2 then (
                      some ((cron_item.mk y_6.1 to__8 step_2), true)
                    ) else (
                      some ((cron_item.mk y_6.1 to__8 step_2), (!y_0.2.2))
                    ))
                  ) else (
                    some ((cron_item.mk y_6.1 to__8 step_2), false)
                  ))
                ) else (
                  some ((cron_item.mk y_6.1 to__8 step_2), false)
                ))
              ) else (
                some ((cron_item.mk y_6.1 to__8 step_2), false)
              ))
            ))
          ))
        ))
      ))
    ))
  ))


def cron_all (F : Nat) (least : Int) (most : Int) : Option Int :=
  (bif decide ((0 : Int) ≤ (IntKind.wrap IntKind.i64 (most + (1 : Int)))) then (
    (bif decide ((0 : Int) ≤ least) then (
      some (IntKind.wrap IntKind.u64 ((IntKind.wrap IntKind.u64 ((1 : Int) * ((2 : Int) ^ (min (Int.toNat (IntKind.wrap IntKind.i64 (most + (1 : Int)))) 64)))) - (IntKind.wrap IntKind.u64 ((1 : Int) * ((2 : Int) ^ (min (Int.toNat least) 64))))))
    ) else none)
  ) else none)

def cron_field_l1 (F : Nat) (y_42 : (cron_item × Bool)) (c_45 : Int) : Nat → Int → Int → Option (Int)
  | 0, _, _ => none
  | n_47 + 1, bits_48, k_49 =>
    (bif (decide (k_49 ≤ c_45)) then (
      (bif decide ((0 : Int) ≤ k_49) then (
        (cron_field_l1 F y_42 c_45 n_47 (@ibits BinOp.or IntKind.u64 bits_48 (IntKind.wrap IntKind.u64 ((1 : Int) * ((2 : Int) ^ (min (Int.toNat k_49) 64))))) (IntKind.wrap IntKind.i64 (k_49 + y_42.1.step)))
      ) else none)
    ) else (
      some bits_48
    ))
def cron_field_l0 (F : Nat) (n : Int) (c_0 : Int) (c_1 : Int) (y_2 : (List (List UInt8))) : Nat → Int → Int → Int → Option ((((Int × Int)) ⊕ (Int × Int)))
  | 0, _, _, _ => none
  | n_29 + 1, bits_30, e_31, t20_32 =>
    (bif (decide (t20_32 < (@Nat.cast Int instNatCastInt (List.length y_2)))) then (
      (Option.bind (
        (bif decide ((0 : Int) ≤ t20_32) then (
          (Option.bind ((y_2)[(Int.toNat t20_32)]?) fun y_41 => (
            (Option.bind (cron_read F y_41 (cron_span.mk c_0 c_1)) fun y_42 => (
              (bif (!y_42.2) then (
                some (Sum.inl ((0 : Int), (50 : Int)))
              ) else (
                (Option.bind (
                  (bif (decide (y_42.1.from_ < c_0)) then (
                    some true
                  ) else (
                    (bif (decide (c_1 < y_42.1.to_)) then (
                      some true
                    ) else (
                      (bif (decide (y_42.1.to_ < y_42.1.from_)) then (
                        some true
                      ) else (
                        some (y_42.1.step == (0 : Int))
                      ))
                    ))
                  ))
                ) fun t55_43 => (
                  (bif t55_43 then (
                    some (Sum.inr (bits_30, (51 : Int)))
                  ) else (
                    (Option.bind (
                      (bif (y_41 == ([42] : List UInt8)) then (
                        some (n == (4 : Int))
                      ) else (
                        some false
                      ))
                    ) fun t61_44 => (
                      (Option.bind (
                        (bif t61_44 then (
                          some (6 : Int)
                        ) else (
                          some y_42.1.to_
                        ))
                      ) fun c_45 => (
                        (Option.bind (
                          (cron_field_l1 F y_42 c_45 F bits_30 y_42.1.from_)
                        ) fun bits_46 => (
                          some (Sum.inr (bits_46, e_31))
                        ))
                      ))
                    ))
                  ))
                ))
              ))
            ))
          ))
        ) else none)
      ) fun o21 => Sum.elim (fun r => some (Sum.inl r)) (fun (bits_39, e_40) => (
        (cron_field_l0 F n c_0 c_1 y_2 n_29 bits_39 e_40 (IntKind.wrap IntKind.i64 (t20_32 + (1 : Int))))
      )) o21)
    ) else (
      some (Sum.inr (bits_30, e_31))
    ))
def cron_field (F : Nat) (s : (List UInt8)) (n : Int) : Option (Int × Int) :=
  (Option.bind (
    (bif decide ((0 : Int) ≤ n) then (
      (bif decide (n < (5 : Int)) then (
        (bif (n == (0 : Int)) then (
          some ((0 : Int), (59 : Int))
        ) else (
          (bif (n == (1 : Int)) then (
            some ((0 : Int), (23 : Int))
          ) else (
            (bif (n == (2 : Int)) then (
              some ((1 : Int), (31 : Int))
            ) else (
              (bif (n == (3 : Int)) then (
                some ((1 : Int), (12 : Int))
              ) else (
                (bif (n == (4 : Int)) then (
                  some ((0 : Int), (7 : Int))
                ) else (
                  none
                ))
              ))
            ))
          ))
        ))
      ) else none)
    ) else none)
  ) fun (c_0, c_1) => (
    (Option.bind (strings_Split F s ([44] : List UInt8)) fun y_2 => (
      (Option.bind (
        (cron_field_l0 F n c_0 c_1 y_2 F (0 : Int) (0 : Int) (0 : Int))
      ) fun o11 => Sum.elim (fun r => some r) (fun (bits_19, e_20) => (
        (Option.bind (
          (bif (n == (4 : Int)) then (
            some ((@Int.fdiv bits_19 ((2 : Int) ^ (min (Int.toNat (7 : Int)) 64))) != (0 : Int))
          ) else (
            some false
          ))
        ) fun t84_50 => (
          (Option.bind (
            (bif t84_50 then (
              (Option.bind (cron_all F (0 : Int) (6 : Int)) fun y_53 => (
                some (@ibits BinOp.or IntKind.u64 (@ibits BinOp.and IntKind.u64 bits_19 y_53) (1 : Int))
              ))
            ) else (
              some bits_19
            ))
          ) fun bits_52 => (
            some (bits_52, e_20)
          ))
        ))
      )) o11)
    ))
  ))

def cron_Parse_l0 (F : Nat) (y_0 : (List (List UInt8))) : Nat → Int → Int → Int → Int → Int → Int → Option ((((api_Cron × Int × Int)) ⊕ (Int × Int × Int × Int × Int)))
  | 0, _, _, _, _, _, _ => none
  | n_52 + 1, t23_53, c_54, c_55, c_56, c_57, c_58 =>
    (bif (decide (t23_53 < (@Nat.cast Int instNatCastInt (List.length y_0)))) then (
      (bif decide ((0 : Int) ≤ t23_53) then (
        (Option.bind ((y_0)[(Int.toNat t23_53)]?) fun y_66 => (
          (Option.bind (cron_field F y_66 t23_53) fun y_67 => (
            (bif (y_67.2 != (0 : Int)) then (
              some (Sum.inl ((api_Cron.mk (0 : Int) (0 : Int) (0 : Int) (0 : Int) (0 : Int) false false), t23_53, y_67.2))
            ) else (
              (Option.bind (
                (bif decide ((0 : Int) ≤ t23_53) then (
                  (bif decide (t23_53 < (5 : Int)) then (
                    (bif (t23_53 == (0 : Int)) then (
                      some (y_67.1, c_55, c_56, c_57, c_58)
                    ) else (
                      (bif (t23_53 == (1 : Int)) then (
                        some (c_54, y_67.1, c_56, c_57, c_58)
                      ) else (
                        (bif (t23_53 == (2 : Int)) then (
                          some (c_54, c_55, y_67.1, c_57, c_58)
                        ) else (
                          (bif (t23_53 == (3 : Int)) then (
                            some (c_54, c_55, c_56, y_67.1, c_58)
                          ) else (
                            (bif (t23_53 == (4 : Int)) then (
                              some (c_54, c_55, c_56, c_57, y_67.1)
                            ) else (
                              none
                            ))
                          ))
                        ))
                      ))
                    ))
                  ) else none)
                ) else none)
              ) fun (c_68, c_69, c_70, c_71, c_72) => (
                (cron_Parse_l0 F y_0 n_52 (IntKind.wrap IntKind.i64 (t23_53 + (1 : Int))) c_68 c_69 c_70 c_71 c_72)
              ))
            ))
          ))
        ))
      ) else none)
    ) else (
      some (Sum.inr (c_54, c_55, c_56, c_57, c_58))
    ))
def cron_Parse (F : Nat) (text : (List UInt8)) : Option (api_Cron × Int × Int) :=
  (bif (decide ((256 : Int) < (@Nat.cast Int instNatCastInt (List.length text)))) then (
    some ((api_Cron.mk (0 : Int) (0 : Int) (0 : Int) (0 : Int) (0 : Int) false false), (0 : Int), (2 : Int))
  ) else (
    (Option.bind (strings_FieldsFunc F text) fun y_0 => (
      (bif ((@Nat.cast Int instNatCastInt (List.length y_0)) != (5 : Int)) then (
        some ((api_Cron.mk (0 : Int) (0 : Int) (0 : Int) (0 : Int) (0 : Int) false false), (5 : Int), (50 : Int))
      ) else (
        (Option.bind (
          (cron_Parse_l0 F y_0 F (0 : Int) (0 : Int) (0 : Int) (0 : Int) (0 : Int) (0 : Int))
        ) fun o4 => Sum.elim (fun r => some r) (fun (c_33, c_34, c_35, c_36, c_37) => (
          (Option.bind ((y_0)[(Int.toNat (2 : Int))]?) fun y_73 => (
            (Option.bind ((y_0)[(Int.toNat (4 : Int))]?) fun y_74 => (
              some ((api_Cron.mk c_33 c_34 c_35 c_36 c_37 (y_73 == ([42] : List UInt8)) (y_74 == ([42] : List UInt8))), (0 : Int), (0 : Int))
            ))
          ))
        )) o4)
      ))
    ))
  ))


def zone_rule (F : Nat) (r_ : api_Rule) : Option Bool :=
  (bif (decide ((1 : Int) ≤ r_.Month)) then (
    (bif (decide (r_.Month ≤ (12 : Int))) then (
      (bif (decide ((1 : Int) ≤ r_.Week)) then (
        (bif (decide (r_.Week ≤ (5 : Int))) then (
          (bif (decide ((0 : Int) ≤ r_.Day)) then (
            (bif (decide (r_.Day ≤ (6 : Int))) then (
              (bif (decide ((0 : Int) ≤ r_.At)) then (
                some (decide (r_.At ≤ (1439 : Int)))
              ) else (
                some false
              ))
            ) else (
              some false
            ))
          ) else (
            some false
          ))
        ) else (
          some false
        ))
      ) else (
        some false
      ))
    ) else (
      some false
    ))
  ) else (
    some false
  ))


def zone_Make (F : Nat) (z : api_Zone) : Option (Int ⊕ (Int × zone_Zone)) :=
  (Option.bind (
    (bif (decide (z.Base < (@Neg.neg Int Int.instNegInt (720 : Int)))) then (
      some true
    ) else (
      (bif (decide ((840 : Int) < z.Base)) then (
        some true
      ) else (
        (bif (decide (z.Save < (0 : Int))) then (
          some true
        ) else (
          some (decide ((120 : Int) < z.Save))
        ))
      ))
    ))
  ) fun t23_0 => (
    (bif t23_0 then (
      some (Sum.inl (40 : Int))
    ) else (
      (Option.bind (
        (bif (z.Save == (0 : Int)) then (
          (bif (!((z.On.Month == (0 : Int)) && ((z.On.Week == (0 : Int)) && ((z.On.Day == (0 : Int)) && ((z.On.At == (0 : Int)) && true))))) then (
            some true
          ) else (
            (bif (!((z.Off.Month == (0 : Int)) && ((z.Off.Week == (0 : Int)) && ((z.Off.Day == (0 : Int)) && ((z.Off.At == (0 : Int)) && true))))) then (
              some true
            ) else (
              (bif (decide ((0 : Int) < z.Save)) then (
                (Option.bind (zone_rule F z.On) fun y_6 => (
                  (bif (!y_6) then (
                    some true
                  ) else (
                    (Option.bind (zone_rule F z.Off) fun y_7 => (
                      (bif (!y_7) then (
                        some true
                      ) else (
                        some (z.On.Month == z.Off.Month)
                      ))
                    ))
                  ))
                ))
              ) else (
                some false
              ))
            ))
          ))
        ) else (
          (bif (decide ((0 : Int) < z.Save)) then (
            (Option.bind (zone_rule F z.On) fun y_8 => (
              (bif (!y_8) then (
                some true
              ) else (
                (Option.bind (zone_rule F z.Off) fun y_9 => (
                  (bif (!y_9) then (
                    some true
                  ) else (
                    some (z.On.Month == z.Off.Month)
                  ))
                ))
              ))
            ))
          ) else (
            some false
          ))
        ))
      ) fun t64_5 => (
        (bif t64_5 then (
          some (Sum.inl (40 : Int))
        ) else (
          some (Sum.inr ((0 : Int), (zone_Zone.mk z (sync_Once.mk sync_noCopy.mk (atomic_Bool.mk atomic_noCopy.mk (0 : Int)) (sync_Mutex_135.mk sync_noCopy.mk (sync_Mutex.mk (0 : Int) (0 : Int)))) [])))
        ))
      ))
    ))
  ))


def zone_Named (F : Nat) (name : (List UInt8)) : Option (Int ⊕ (zone_Zone × Int)) :=
  (Option.bind (
    (bif (name == ([117, 116, 99] : List UInt8)) then (
      some (Sum.inr ((0 : Int), (0 : Int), (0 : Int), (0 : Int), (0 : Int), (0 : Int), (0 : Int), (0 : Int)))
    ) else (
      (bif (name == ([105, 110, 100, 105, 97] : List UInt8)) then (
        some (Sum.inr ((330 : Int), (0 : Int), (0 : Int), (0 : Int), (0 : Int), (0 : Int), (0 : Int), (0 : Int)))
      ) else (
        (bif (name == ([110, 101, 112, 97, 108] : List UInt8)) then (
          some (Sum.inr ((345 : Int), (0 : Int), (0 : Int), (0 : Int), (0 : Int), (0 : Int), (0 : Int), (0 : Int)))
        ) else (
          (bif (name == ([110, 101, 119, 121, 111, 114, 107] : List UInt8)) then (
            some (Sum.inr ((@Neg.neg Int Int.instNegInt (300 : Int)), (60 : Int), (3 : Int), (2 : Int), (420 : Int), (11 : Int), (1 : Int), (360 : Int)))
          ) else (
            (bif (name == ([98, 101, 114, 108, 105, 110] : List UInt8)) then (
              some (Sum.inr ((60 : Int), (60 : Int), (3 : Int), (5 : Int), (60 : Int), (10 : Int), (5 : Int), (60 : Int)))
            ) else (
              (bif (name == ([115, 121, 100, 110, 101, 121] : List UInt8)) then (
                some (Sum.inr ((600 : Int), (60 : Int), (10 : Int), (1 : Int), (0 : Int), (4 : Int), (1 : Int), (0 : Int)))
              ) else (
                (bif (name == ([104, 111, 119, 101] : List UInt8)) then (
                  some (Sum.inr ((630 : Int), (30 : Int), (10 : Int), (1 : Int), (0 : Int), (4 : Int), (1 : Int), (0 : Int)))
                ) else (
                  some (Sum.inl (Sum.inl (40 : Int)))
                ))
              ))
            ))
          ))
        ))
      ))
    ))
  ) fun o0 => Sum.elim (fun r => some r) (fun (c_0, c_1, c_2, c_3, c_4, c_5, c_6, c_7) => (
    (Option.bind (zone_Make F (api_Zone.mk c_0 c_1 (api_Rule.mk c_2 c_3 (0 : Int) c_4) (api_Rule.mk c_5 c_6 (0 : Int) c_7))) fun y_8 => (
      (Sum.elim (fun y_8 => (
        some (Sum.inl y_8)
      )) (fun y_8 => (
        some (Sum.inr ((zone_Zone.mk y_8.2.rules (sync_Once.mk sync_noCopy.mk (atomic_Bool.mk atomic_noCopy.mk y_8.2.once.done.v) (sync_Mutex_135.mk sync_noCopy.mk y_8.2.once.m.mu)) y_8.2.turns), y_8.1))
      )) y_8)
    ))
  )) o0)


def __zone_Zone__Rules (F : Nat) : Option api_Zone :=
  some (api_Zone.mk (0 : Int) (0 : Int) (api_Rule.mk (0 : Int) (0 : Int) (0 : Int) (0 : Int)) (api_Rule.mk (0 : Int) (0 : Int) (0 : Int) (0 : Int)))


def __zone_Zone__Rules_i1 (F : Nat) (z : zone_Zone) : Option api_Zone :=
  some z.rules


def jobs_read (F : Nat) (expr : (List UInt8)) (name : (List UInt8)) : Option (api_Cron × api_Zone × Int) :=
  (Option.bind (cron_Parse F expr) fun y_0 => (
    (bif (y_0.2.2 != (0 : Int)) then (
      some ((api_Cron.mk (0 : Int) (0 : Int) (0 : Int) (0 : Int) (0 : Int) false false), (api_Zone.mk (0 : Int) (0 : Int) (api_Rule.mk (0 : Int) (0 : Int) (0 : Int) (0 : Int)) (api_Rule.mk (0 : Int) (0 : Int) (0 : Int) (0 : Int))), y_0.2.2)
    ) else (
      (Option.bind (zone_Named F name) fun y_1 => (
        (Sum.elim (fun y_1 => (
          (Option.bind (__zone_Zone__Rules F) fun y_2 => (
            some (y_0.1, y_2, y_1)
          ))
        )) (fun y_1 => (
          (Option.bind (__zone_Zone__Rules_i1 F y_1.1) fun y_3 => (
            some (y_0.1, y_3, y_1.2)
          ))
        )) y_1)
      ))
    ))
  ))

def jobs_Named_l0 (F : Nat) (s : (List UInt8)) : Nat → Int → Option (((Bool) ⊕ Unit))
  | 0, _ => none
  | n_18 + 1, t8_19 =>
    (bif (decide (t8_19 < (@Nat.cast Int instNatCastInt (List.length s)))) then (
      (bif decide ((0 : Int) ≤ t8_19) then (
        (Option.bind (((List.map (fun (b_13 : UInt8) => (((UInt8.toNat b_13) : Nat) : Int)) s))[(Int.toNat t8_19)]?) fun y_23 => (
          (Option.bind (((List.map (fun (b_13 : UInt8) => (((UInt8.toNat b_13) : Nat) : Int)) s))[(Int.toNat t8_19)]?) fun y_24 => (
            (Option.bind (
              (bif (decide (y_24 < (97 : Int))) then (
                (bif (decide (y_24 < (48 : Int))) then (
                  (bif (y_24 != (45 : Int)) then (
                    some (y_24 != (46 : Int))
                  ) else (
                    some false
                  ))
                ) else (
                  (bif (decide ((57 : Int) < y_24)) then (
                    (bif (y_24 != (45 : Int)) then (
                      some (y_24 != (46 : Int))
                    ) else (
                      some false
                    ))
                  ) else (
                    some false
                  ))
                ))
              ) else (
                (bif (decide ((122 : Int) < y_24)) then (
                  (bif (decide (y_24 < (48 : Int))) then (
                    (bif (y_24 != (45 : Int)) then (
                      some (y_24 != (46 : Int))
                    ) else (
                      some false
                    ))
                  ) else (
                    (bif (decide ((57 : Int) < y_24)) then (
                      (bif (y_24 != (45 : Int)) then (
                        some (y_24 != (46 : Int))
                      ) else (
                        some false
                      ))
                    ) else (
                      some false
                    ))
                  ))
                ) else (
                  some false
                ))
              ))
            ) fun t33_25 => (
              (bif t33_25 then (
                some (Sum.inl false)
              ) else (
                (jobs_Named_l0 F s n_18 (IntKind.wrap IntKind.i64 (t8_19 + (1 : Int))))
              ))
            ))
          ))
        ))
      ) else none)
    ) else (
      some (Sum.inr ())
    ))
def jobs_Named (F : Nat) (s : (List UInt8)) : Option Bool :=
  (bif decide ((List.length s) ≤ LIM) then (
    (Option.bind (
      (jobs_Named_l0 F s F (0 : Int))
    ) fun o4 => Sum.elim (fun r => some r) (fun _ => (
      (bif (decide ((1 : Int) ≤ (@Nat.cast Int instNatCastInt (List.length s)))) then (
        some (decide ((@Nat.cast Int instNatCastInt (List.length s)) ≤ (16 : Int)))
      ) else (
        some false
      ))
    )) o4)
  ) else none)


def jobs_marked (F : Nat) (t : Int) : Option Bool :=
  (bif (decide ((@Neg.neg Int Int.instNegInt (1 : Int)) ≤ t)) then (
    some (decide (t ≤ (226157759 : Int)))
  ) else (
    some false
  ))


def cron_fields (F : Nat) (c : api_Cron) : Option A_5_uint64 :=
  some (A_5_uint64.mk c.Minute c.Hour c.Day c.Month c.Week)


def cron_full (F : Nat) (field : Int) : Option Int :=
  (bif (field == (4 : Int)) then (
    (Option.bind (cron_all F (0 : Int) (6 : Int)) fun y_0 => (
      some y_0
    ))
  ) else (
    (bif decide ((0 : Int) ≤ field) then (
      (bif decide (field < (5 : Int)) then (
        (bif (field == (0 : Int)) then (
          (bif decide ((0 : Int) ≤ field) then (
            (bif decide (field < (5 : Int)) then (
              (bif (field == (0 : Int)) then (
                (Option.bind (cron_all F (0 : Int) (59 : Int)) fun y_1 => (
                  some y_1
                ))
              ) else (
                none
              ))
            ) else none)
          ) else none)
        ) else (
          (bif (field == (1 : Int)) then (
            (bif decide ((0 : Int) ≤ field) then (
              (bif decide (field < (5 : Int)) then (
                (bif (field == (0 : Int)) then none else (
                  (bif (field == (1 : Int)) then (
                    (Option.bind (cron_all F (0 : Int) (23 : Int)) fun y_2 => (
                      some y_2
                    ))
                  ) else (
                    none
                  ))
                ))
              ) else none)
            ) else none)
          ) else (
            (bif (field == (2 : Int)) then (
              (bif decide ((0 : Int) ≤ field) then (
                (bif decide (field < (5 : Int)) then (
                  (bif (field == (0 : Int)) then none else (
                    (bif (field == (1 : Int)) then none else (
                      (bif (field == (2 : Int)) then (
                        (Option.bind (cron_all F (1 : Int) (31 : Int)) fun y_3 => (
                          some y_3
                        ))
                      ) else (
                        none
                      ))
                    ))
                  ))
                ) else none)
              ) else none)
            ) else (
              (bif (field == (3 : Int)) then (
                (bif decide ((0 : Int) ≤ field) then (
                  (bif decide (field < (5 : Int)) then (
                    (bif (field == (0 : Int)) then none else (
                      (bif (field == (1 : Int)) then none else (
                        (bif (field == (2 : Int)) then none else (
                          (bif (field == (3 : Int)) then (
                            (Option.bind (cron_all F (1 : Int) (12 : Int)) fun y_4 => (
                              some y_4
                            ))
                          ) else (
                            none
                          ))
                        ))
                      ))
                    ))
                  ) else none)
                ) else none)
              ) else (
                (bif (field == (4 : Int)) then none else (
                  none
                ))
              ))
            ))
          ))
        ))
      ) else none)
    ) else none)
  ))

def cron_Check_l0 (F : Nat) (y_0 : A_5_uint64) : Nat → Int → Option (((Bool) ⊕ Unit))
  | 0, _ => none
  | n_17 + 1, t7_18 =>
    (bif (decide (t7_18 < (5 : Int))) then (
      (Option.bind (
        (bif decide ((0 : Int) ≤ t7_18) then (
          (bif decide (t7_18 < (5 : Int)) then (
            (bif (t7_18 == (0 : Int)) then (
              some y_0.e0
            ) else (
              (bif (t7_18 == (1 : Int)) then (
                some y_0.e1
              ) else (
                (bif (t7_18 == (2 : Int)) then (
                  some y_0.e2
                ) else (
                  (bif (t7_18 == (3 : Int)) then (
                    some y_0.e3
                  ) else (
                    (bif (t7_18 == (4 : Int)) then (
                      some y_0.e4
                    ) else (
                      none
                    ))
                  ))
                ))
              ))
            ))
          ) else none)
        ) else none)
      ) fun b_22 => (
        (Option.bind (
          (bif (b_22 == (0 : Int)) then (
            some true
          ) else (
            (Option.bind (cron_full F t7_18) fun y_25 => (
              some ((@ibits BinOp.andNot IntKind.u64 b_22 y_25) != (0 : Int))
            ))
          ))
        ) fun t19_24 => (
          (bif t19_24 then (
            some (Sum.inl false)
          ) else (
            (cron_Check_l0 F y_0 n_17 (IntKind.wrap IntKind.i64 (t7_18 + (1 : Int))))
          ))
        ))
      ))
    ) else (
      some (Sum.inr ())
    ))
def cron_Check (F : Nat) (c : api_Cron) : Option Bool :=
  (Option.bind (cron_fields F c) fun y_0 => (
    (Option.bind (
      (cron_Check_l0 F y_0 F (0 : Int))
    ) fun o6 => Sum.elim (fun r => some r) (fun _ => (
      (bif (!c.AnyDay) then (
        (bif (!c.AnyWeek) then (
          some true
        ) else (
          (Option.bind (cron_full F (4 : Int)) fun y_26 => (
            some (c.Week == y_26)
          ))
        ))
      ) else (
        (Option.bind (cron_full F (2 : Int)) fun y_27 => (
          (bif (c.Day == y_27) then (
            (bif (!c.AnyWeek) then (
              some true
            ) else (
              (Option.bind (cron_full F (4 : Int)) fun y_28 => (
                some (c.Week == y_28)
              ))
            ))
          ) else (
            some false
          ))
        ))
      ))
    )) o6)
  ))

def math_bits_TrailingZeros64 (F : Nat) (n : Int) : Option Int := bif decide (0 ≤ n ∧ n < 18446744073709551616) then some ((Lib.ctz 64 n.toNat : Nat) : Int) else none

def strconv_Itoa (F : Nat) (n : Int) : Option (List UInt8) := bif decide (0 ≤ n ∧ n < 100) then some (Lib.itoa n) else none

def strings_Join (F : Nat) (xs : List (List UInt8)) (sep : (List UInt8)) : Option (List UInt8) := bif decide (List.length (Lib.join xs sep) ≤ 140737488355328) then some (Lib.join xs sep) else none

def cron_runs_l0 (F : Nat) : Nat → Int → (List (List UInt8)) → Option ((List (List UInt8)))
  | 0, _, _ => none
  | n_19 + 1, b_20, l_21 =>
    (bif (b_20 != (0 : Int)) then (
      (Option.bind (math_bits_TrailingZeros64 F b_20) fun y_22 => (
        (bif decide ((0 : Int) ≤ y_22) then (
          (Option.bind (math_bits_TrailingZeros64 F (@ibits BinOp.xor IntKind.u64 (if ((@IntKind.signed IntKind.u64) = true) then (@Neg.neg Int Int.instNegInt (1 : Int)) else (@IntKind.max IntKind.u64)) (@Int.fdiv b_20 ((2 : Int) ^ (min (Int.toNat y_22) 64))))) fun y_23 => (
            (Option.bind (strconv_Itoa F y_22) fun y_24 => (
              (Option.bind (
                (bif (decide ((1 : Int) < y_23)) then (
                  (Option.bind (strconv_Itoa F (IntKind.wrap IntKind.i64 ((IntKind.wrap IntKind.i64 (y_22 + y_23)) - (1 : Int)))) fun y_27 => (
                    (bif decide (((List.length ([45] : List UInt8)) + (List.length y_27)) ≤ 9223372036854775807) then (
                      (bif decide (((List.length y_24) + (List.length (([45] : List UInt8) ++ y_27))) ≤ 9223372036854775807) then (
                        some (y_24 ++ (([45] : List UInt8) ++ y_27))
                      ) else none)
                    ) else none)
                  ))
                ) else (
                  some y_24
                ))
              ) fun s_26 => (
                (bif decide (((List.length l_21) + 1) ≤ LIM) then (
                  (Option.bind (cron_all F y_22 (IntKind.wrap IntKind.i64 ((IntKind.wrap IntKind.i64 (y_22 + y_23)) - (1 : Int)))) fun y_28 => (
                    (cron_runs_l0 F n_19 (@ibits BinOp.andNot IntKind.u64 b_20 y_28) (l_21 ++ (s_26 :: [])))
                  ))
                ) else none)
              ))
            ))
          ))
        ) else none)
      ))
    ) else (
      some l_21
    ))
def cron_runs (F : Nat) (b : Int) : Option (List UInt8) :=
  (Option.bind (
    (cron_runs_l0 F F b [])
  ) fun l_12 => (
    (Option.bind (strings_Join F l_12 ([44] : List UInt8)) fun y_29 => (
      some y_29
    ))
  ))

def cron_Print_l0 (F : Nat) (c : api_Cron) (y_1 : A_5_uint64) : Nat → Int → (List (List UInt8)) → Option ((List (List UInt8)))
  | 0, _, _ => none
  | n_16 + 1, t13_17, l_18 =>
    (bif (decide (t13_17 < (5 : Int))) then (
      (Option.bind (
        (Option.bind (
          (bif decide ((0 : Int) ≤ t13_17) then (
            (bif decide (t13_17 < (5 : Int)) then (
              (bif (t13_17 == (0 : Int)) then (
                some y_1.e0
              ) else (
                (bif (t13_17 == (1 : Int)) then (
                  some y_1.e1
                ) else (
                  (bif (t13_17 == (2 : Int)) then (
                    some y_1.e2
                  ) else (
                    (bif (t13_17 == (3 : Int)) then (
                      some y_1.e3
                    ) else (
                      (bif (t13_17 == (4 : Int)) then (
                        some y_1.e4
                      ) else (
                        none
                      ))
                    ))
                  ))
                ))
              ))
            ) else none)
          ) else none)
        ) fun b_24 => (
          (Option.bind (cron_full F t13_17) fun y_25 => (
            (Option.bind (
              (bif (t13_17 == (2 : Int)) then (
                some c.AnyDay
              ) else (
                (bif (t13_17 == (4 : Int)) then (
                  some c.AnyWeek
                ) else (
                  some (b_24 == y_25)
                ))
              ))
            ) fun star_26 => (
              (bif star_26 then (
                (bif decide (((List.length l_18) + 1) ≤ LIM) then (
                  some (l_18 ++ (([42] : List UInt8) :: []))
                ) else none)
              ) else (
                (Option.bind (cron_runs F b_24) fun y_27 => (
                  (bif decide (((List.length l_18) + 1) ≤ LIM) then (
                    some (l_18 ++ (y_27 :: []))
                  ) else none)
                ))
              ))
            ))
          ))
        ))
      ) fun l_23 => (
        (cron_Print_l0 F c y_1 n_16 (IntKind.wrap IntKind.i64 (t13_17 + (1 : Int))) l_23)
      ))
    ) else (
      some l_18
    ))
def cron_Print (F : Nat) (c : api_Cron) : Option ((List UInt8) × Int) :=
  (Option.bind (cron_Check F c) fun y_0 => (
    (bif (!y_0) then (
      some (([] : List UInt8), (1 : Int))
    ) else (
      (Option.bind (cron_fields F c) fun y_1 => (
        (Option.bind (
          (cron_Print_l0 F c y_1 F (0 : Int) [])
        ) fun l_10 => (
          (Option.bind (strings_Join F l_10 ([32] : List UInt8)) fun y_28 => (
            some (y_28, (0 : Int))
          ))
        ))
      ))
    ))
  ))


def jobs_right (F : Nat) (j : api_Job) : Option Bool :=
  (Option.bind (jobs_read F j.Expr j.Zone) fun y_0 => (
    (Option.bind (
      (bif (y_0.2.2 != (0 : Int)) then (
        some true
      ) else (
        (Option.bind (jobs_Named F j.Name) fun y_4 => (
          (bif (!y_4) then (
            some true
          ) else (
            (bif (decide ((32 : Int) < (@Nat.cast Int instNatCastInt (List.length j.Token)))) then (
              some true
            ) else (
              (bif (decide (j.Client < (1 : Int))) then (
                some true
              ) else (
                (bif (decide ((64 : Int) < j.Client)) then (
                  some true
                ) else (
                  (bif (decide (j.Seq < (1 : Int))) then (
                    some true
                  ) else (
                    (Option.bind (jobs_marked F j.Mark) fun y_5 => (
                      some (!y_5)
                    ))
                  ))
                ))
              ))
            ))
          ))
        ))
      ))
    ) fun t51_3 => (
      (bif t51_3 then (
        some false
      ) else (
        (Option.bind (cron_Print F y_0.1) fun y_6 => (
          some (y_6.1 == j.Expr)
        ))
      ))
    ))
  ))

def jobs_Check_l0 (F : Nat) (list : (List api_Job)) : Nat → Int → Option (((Bool) ⊕ Unit))
  | 0, _ => none
  | n_22 + 1, t7_23 =>
    (bif (decide (t7_23 < (@Nat.cast Int instNatCastInt (List.length list)))) then (
      (bif decide ((0 : Int) ≤ t7_23) then (
        (Option.bind ((list)[(Int.toNat t7_23)]?) fun y_28 => (
          (Option.bind (
            (Option.bind (jobs_right F y_28) fun y_32 => (
              (bif (!y_32) then (
                some true
              ) else (
                (bif (decide ((0 : Int) < t7_23)) then (
                  (bif decide ((0 : Int) ≤ (IntKind.wrap IntKind.i64 (t7_23 - (1 : Int)))) then (
                    (Option.bind ((list)[(Int.toNat (IntKind.wrap IntKind.i64 (t7_23 - (1 : Int))))]?) fun y_33 => (
                      some (!(@Op.bytesLess y_33.Name y_28.Name))
                    ))
                  ) else none)
                ) else (
                  some false
                ))
              ))
            ))
          ) fun t29_31 => (
            (bif t29_31 then (
              some (Sum.inl false)
            ) else (
              (jobs_Check_l0 F list n_22 (IntKind.wrap IntKind.i64 (t7_23 + (1 : Int))))
            ))
          ))
        ))
      ) else none)
    ) else (
      some (Sum.inr ())
    ))
def jobs_Check (F : Nat) (list : (List api_Job)) : Option Bool :=
  (Option.bind (
    (jobs_Check_l0 F list F (0 : Int))
  ) fun o4 => Sum.elim (fun r => some r) (fun _ => (
    some (decide ((@Nat.cast Int instNatCastInt (List.length (List.map api_Job.c list))) ≤ (256 : Int)))
  )) o4)


def jobs_no (F : Nat) (e : Int) : Option api_Result :=
  some (api_Result.mk e (0 : Int) [])

def slices_Clone___api_Job_api_Job_ (F : Nat) (s : List api_Job) : Option (List api_Job) := bif decide (List.length s ≤ LIM) then some s else none


def jobs_commands (F : Nat) : Option (Int × Int × Int × Int × Int × Int × Int × Int) :=
  some ((1 : Int), (2 : Int), (3 : Int), (4 : Int), (5 : Int), (6 : Int), (7 : Int), (8 : Int))


def cmp_isNaN_string_ (F : Nat) (x : (List UInt8)) : Option Bool :=
  some (!(x == x))


def cmp_Compare_string_ (F : Nat) (x : (List UInt8)) (y : (List UInt8)) : Option Int :=
  (Option.bind (cmp_isNaN_string_ F x) fun y_0 => (
    (Option.bind (cmp_isNaN_string_ F y) fun y_1 => (
      (bif y_0 then (
        (bif y_1 then (
          some (0 : Int)
        ) else (
          some (@Neg.neg Int Int.instNegInt (1 : Int))
        ))
      ) else (
        (bif y_1 then (
          some (1 : Int)
        ) else (
          (bif (@Op.bytesLess x y) then (
            some (@Neg.neg Int Int.instNegInt (1 : Int))
          ) else (
            (bif (!((@Op.bytesLess x y) || (x == y))) then (
              some (1 : Int)
            ) else (
              some (0 : Int)
            ))
          ))
        ))
      ))
    ))
  ))


def __jobs_table__find_1 (F : Nat) (j : api_Job) (name : (List UInt8)) : Option Int :=
  (Option.bind (cmp_Compare_string_ F j.Name name) fun y_0 => (
    some y_0
  ))

def slices_BinarySearchFunc___api_Job_api_Job_string__l0 (F : Nat) (x : (List api_Job)) (target : (List UInt8)) : Nat → Int → Int → Option (Int)
  | 0, _, _ => none
  | n_7 + 1, i_8, j_9 =>
    (bif (decide (i_8 < j_9)) then (
      (bif decide ((0 : Int) ≤ (IntKind.wrap IntKind.i64 (@Int.fdiv (IntKind.wrap IntKind.u64 (IntKind.wrap IntKind.i64 (i_8 + j_9))) ((2 : Int) ^ (min (Int.toNat (1 : Int)) 64))))) then (
        (Option.bind ((x)[(Int.toNat (IntKind.wrap IntKind.i64 (@Int.fdiv (IntKind.wrap IntKind.u64 (IntKind.wrap IntKind.i64 (i_8 + j_9))) ((2 : Int) ^ (min (Int.toNat (1 : Int)) 64)))))]?) fun y_10 => (
          (Option.bind (__jobs_table__find_1 F y_10 target) fun y_11 => (
            (bif (decide (y_11 < (0 : Int))) then (
              (slices_BinarySearchFunc___api_Job_api_Job_string__l0 F x target n_7 (IntKind.wrap IntKind.i64 ((IntKind.wrap IntKind.i64 (@Int.fdiv (IntKind.wrap IntKind.u64 (IntKind.wrap IntKind.i64 (i_8 + j_9))) ((2 : Int) ^ (min (Int.toNat (1 : Int)) 64)))) + (1 : Int))) j_9)
            ) else (
              (slices_BinarySearchFunc___api_Job_api_Job_string__l0 F x target n_7 i_8 (IntKind.wrap IntKind.i64 (@Int.fdiv (IntKind.wrap IntKind.u64 (IntKind.wrap IntKind.i64 (i_8 + j_9))) ((2 : Int) ^ (min (Int.toNat (1 : Int)) 64)))))
            ))
          ))
        ))
      ) else none)
    ) else (
      some i_8
    ))
def slices_BinarySearchFunc___api_Job_api_Job_string_ (F : Nat) (x : (List api_Job)) (target : (List UInt8)) : Option (Int × Bool) :=
  (Option.bind (
    (slices_BinarySearchFunc___api_Job_api_Job_string__l0 F x target F (0 : Int) (@Nat.cast Int instNatCastInt (List.length (List.map api_Job.c x))))
  ) fun i_4 => (
    (bif (decide (i_4 < (@Nat.cast Int instNatCastInt (List.length x)))) then (
      (bif decide ((0 : Int) ≤ i_4) then (
        (Option.bind ((x)[(Int.toNat i_4)]?) fun y_12 => (
          (Option.bind (__jobs_table__find_1 F y_12 target) fun y_13 => (
            some (i_4, (y_13 == (0 : Int)))
          ))
        ))
      ) else none)
    ) else (
      some (i_4, false)
    ))
  ))


def jobs_one (F : Nat) (j : api_Job) : Option (Int × Int × (List api_Job)) :=
  some ((0 : Int), (0 : Int), (j :: []))


def slices_Delete___api_Job_api_Job_ (F : Nat) (s : (List api_Job)) (i : Int) (j : Int) : Option (List api_Job) :=
  none


def due_seek (F : Nat) (c : api_Cron) (z : api_Zone) : Option ((Int × Int × Int × Int × Int × Bool × Bool × Int) ⊕ (Int × Int × Int × Int × Int × Bool × Bool × zone_Zone × Int)) :=
  (Option.bind (cron_Check F c) fun y_0 => (
    (bif (!y_0) then (
      some (Sum.inl ((0 : Int), (0 : Int), (0 : Int), (0 : Int), (0 : Int), false, false, (1 : Int)))
    ) else (
      (Option.bind (zone_Make F z) fun y_1 => (
        (Sum.elim (fun y_1 => (
          some (Sum.inl (c.Minute, c.Hour, c.Day, c.Month, c.Week, c.AnyDay, c.AnyWeek, y_1))
        )) (fun y_1 => (
          some (Sum.inr (c.Minute, c.Hour, c.Day, c.Month, c.Week, c.AnyDay, c.AnyWeek, (zone_Zone.mk y_1.2.rules (sync_Once.mk sync_noCopy.mk (atomic_Bool.mk atomic_noCopy.mk y_1.2.once.done.v) (sync_Mutex_135.mk sync_noCopy.mk y_1.2.once.m.mu)) y_1.2.turns), y_1.1))
        )) y_1)
      ))
    ))
  ))


def __zone_Zone__Offset (F : Nat) (t : Int) : Option (Int × Int) :=
  some ((0 : Int), (40 : Int))


def civil_number (F : Nat) (year : Int) (month : Int) (day : Int) : Option Int :=
  (Option.bind (
    (bif (decide (month ≤ (2 : Int))) then (
      some ((IntKind.wrap IntKind.i64 (year - (1 : Int))), (IntKind.wrap IntKind.i64 (month + (12 : Int))))
    ) else (
      some (year, month)
    ))
  ) fun (y_0, m_1) => (
    some (IntKind.wrap IntKind.i64 ((IntKind.wrap IntKind.i64 ((IntKind.wrap IntKind.i64 ((IntKind.wrap IntKind.i64 ((IntKind.wrap IntKind.i64 ((IntKind.wrap IntKind.i64 ((IntKind.wrap IntKind.i64 ((365 : Int) * y_0)) + (IntKind.wrap IntKind.i64 (@Int.tdiv y_0 (4 : Int))))) - (IntKind.wrap IntKind.i64 (@Int.tdiv y_0 (100 : Int))))) + (IntKind.wrap IntKind.i64 (@Int.tdiv y_0 (400 : Int))))) + (IntKind.wrap IntKind.i64 (@Int.tdiv (IntKind.wrap IntKind.i64 ((IntKind.wrap IntKind.i64 ((153 : Int) * (IntKind.wrap IntKind.i64 (m_1 - (3 : Int))))) + (2 : Int))) (5 : Int))))) + day)) - (719469 : Int)))
  ))

def civil_From_l0 (F : Nat) (t : Int) : Nat → Int → Option (Int)
  | 0, _ => none
  | n_8 + 1, c_9 =>
    (Option.bind (
      (bif (decide (c_9 < (2399 : Int))) then (
        (Option.bind (civil_number F (IntKind.wrap IntKind.i64 (c_9 + (1 : Int))) (1 : Int) (1 : Int)) fun y_12 => (
          some (decide (y_12 ≤ (IntKind.wrap IntKind.i64 (@Int.tdiv t (1440 : Int)))))
        ))
      ) else (
        some false
      ))
    ) fun t40_11 => (
      (bif t40_11 then (
        (civil_From_l0 F t n_8 (IntKind.wrap IntKind.i64 (c_9 + (1 : Int))))
      ) else (
        some c_9
      ))
    ))
def civil_From_l1 (F : Nat) (t : Int) (c_5 : Int) : Nat → Int → Option (Int)
  | 0, _ => none
  | n_20 + 1, c_21 =>
    (Option.bind (
      (bif (decide (c_21 < (12 : Int))) then (
        (Option.bind (civil_number F c_5 (IntKind.wrap IntKind.i64 (c_21 + (1 : Int))) (1 : Int)) fun y_24 => (
          some (decide (y_24 ≤ (IntKind.wrap IntKind.i64 (@Int.tdiv t (1440 : Int)))))
        ))
      ) else (
        some false
      ))
    ) fun t58_23 => (
      (bif t58_23 then (
        (civil_From_l1 F t c_5 n_20 (IntKind.wrap IntKind.i64 (c_21 + (1 : Int))))
      ) else (
        some c_21
      ))
    ))
def civil_From (F : Nat) (t : Int) : Option (api_Civil × Int) :=
  (Option.bind (
    (bif (decide (t < (0 : Int))) then (
      some true
    ) else (
      some (decide ((226157759 : Int) < t))
    ))
  ) fun t12_0 => (
    (bif t12_0 then (
      some ((api_Civil.mk (0 : Int) (0 : Int) (0 : Int) (0 : Int) (0 : Int) (0 : Int)), (30 : Int))
    ) else (
      (Option.bind (
        (civil_From_l0 F t F (IntKind.wrap IntKind.i64 ((1970 : Int) + (IntKind.wrap IntKind.i64 (@Int.tdiv (IntKind.wrap IntKind.i64 (@Int.tdiv t (1440 : Int))) (366 : Int))))))
      ) fun c_5 => (
        (Option.bind (
          (civil_From_l1 F t c_5 F (1 : Int))
        ) fun c_17 => (
          (Option.bind (civil_number F c_5 c_17 (1 : Int)) fun y_25 => (
            some ((api_Civil.mk c_5 c_17 (IntKind.wrap IntKind.i64 ((IntKind.wrap IntKind.i64 ((IntKind.wrap IntKind.i64 (@Int.tdiv t (1440 : Int))) - y_25)) + (1 : Int))) (IntKind.wrap IntKind.i64 (@Int.tdiv (@Int.tmod t (1440 : Int)) (60 : Int))) (@Int.tmod (@Int.tmod t (1440 : Int)) (60 : Int)) (@Int.tmod (IntKind.wrap IntKind.i64 ((IntKind.wrap IntKind.i64 (@Int.tdiv t (1440 : Int))) + (4 : Int))) (7 : Int))), (0 : Int))
          ))
        ))
      ))
    ))
  ))


def __zone_Zone__Local (F : Nat) (t : Int) : Option (api_Civil × Int) :=
  (Option.bind (__zone_Zone__Offset F t) fun y_0 => (
    (bif (y_0.2 != (0 : Int)) then (
      some ((api_Civil.mk (0 : Int) (0 : Int) (0 : Int) (0 : Int) (0 : Int) (0 : Int)), y_0.2)
    ) else (
      (Option.bind (civil_From F (IntKind.wrap IntKind.i64 (t + y_0.1))) fun y_1 => (
        some (y_1.1, y_1.2)
      ))
    ))
  ))


def civil_leap (F : Nat) (year : Int) : Option Bool :=
  (bif ((@Int.tmod year (4 : Int)) == (0 : Int)) then (
    (bif ((@Int.tmod year (100 : Int)) != (0 : Int)) then (
      some true
    ) else (
      some ((@Int.tmod year (400 : Int)) == (0 : Int))
    ))
  ) else (
    some false
  ))


def civil_Days (F : Nat) (year : Int) (month : Int) : Option Int :=
  (Option.bind (
    (bif (decide (year < (1970 : Int))) then (
      some true
    ) else (
      (bif (decide ((2399 : Int) < year)) then (
        some true
      ) else (
        (bif (decide (month < (1 : Int))) then (
          some true
        ) else (
          some (decide ((12 : Int) < month))
        ))
      ))
    ))
  ) fun t5_4 => (
    (bif t5_4 then (
      some (0 : Int)
    ) else (
      (Option.bind (
        (bif (month == (2 : Int)) then (
          (Option.bind (civil_leap F year) fun y_7 => (
            some y_7
          ))
        ) else (
          some false
        ))
      ) fun t20_6 => (
        (bif t20_6 then (
          some (29 : Int)
        ) else (
          (bif (month == (2 : Int)) then (
            some (28 : Int)
          ) else (
            (Option.bind (
              (bif (month == (4 : Int)) then (
                some true
              ) else (
                (bif (month == (6 : Int)) then (
                  some true
                ) else (
                  (bif (month == (9 : Int)) then (
                    some true
                  ) else (
                    some (month == (11 : Int))
                  ))
                ))
              ))
            ) fun t30_8 => (
              (bif t30_8 then (
                some (30 : Int)
              ) else (
                some (31 : Int)
              ))
            ))
          ))
        ))
      ))
    ))
  ))


def civil_To (F : Nat) (c : api_Civil) : Option (Int × Int) :=
  (Option.bind (
    (bif (decide (c.Day < (1 : Int))) then (
      some true
    ) else (
      (Option.bind (civil_Days F c.Year c.Month) fun y_2 => (
        (bif (decide (y_2 < c.Day)) then (
          some true
        ) else (
          (bif (decide (c.Hour < (0 : Int))) then (
            some true
          ) else (
            (bif (decide ((23 : Int) < c.Hour)) then (
              some true
            ) else (
              (bif (decide (c.Minute < (0 : Int))) then (
                some true
              ) else (
                some (decide ((59 : Int) < c.Minute))
              ))
            ))
          ))
        ))
      ))
    ))
  ) fun t36_1 => (
    (bif t36_1 then (
      some ((0 : Int), (30 : Int))
    ) else (
      (Option.bind (civil_number F c.Year c.Month c.Day) fun y_3 => (
        some ((IntKind.wrap IntKind.i64 ((IntKind.wrap IntKind.i64 (y_3 * (1440 : Int))) + (IntKind.wrap IntKind.i64 ((IntKind.wrap IntKind.i64 ((60 : Int) * c.Hour)) + c.Minute)))), (0 : Int))
      ))
    ))
  ))


def cron_Fits (F : Nat) (c : api_Cron) (m : api_Civil) : Option Bool :=
  (Option.bind (civil_To F m) fun y_0 => (
    (Option.bind (
      (bif (y_0.2 != (0 : Int)) then (
        some true
      ) else (
        (Option.bind (cron_Check F c) fun y_3 => (
          (bif (!y_3) then (
            some true
          ) else (
            (bif (decide (m.Week < (0 : Int))) then (
              some true
            ) else (
              some (decide ((6 : Int) < m.Week))
            ))
          ))
        ))
      ))
    ) fun t30_2 => (
      (bif t30_2 then (
        some false
      ) else (
        (Option.bind (
          (bif decide ((0 : Int) ≤ m.Minute) then (
            (bif ((@ibits BinOp.and IntKind.u64 (@Int.fdiv c.Minute ((2 : Int) ^ (min (Int.toNat m.Minute) 64))) (1 : Int)) == (0 : Int)) then (
              some true
            ) else (
              (bif decide ((0 : Int) ≤ m.Hour) then (
                (bif ((@ibits BinOp.and IntKind.u64 (@Int.fdiv c.Hour ((2 : Int) ^ (min (Int.toNat m.Hour) 64))) (1 : Int)) == (0 : Int)) then (
                  some true
                ) else (
                  (bif decide ((0 : Int) ≤ m.Month) then (
                    some ((@ibits BinOp.and IntKind.u64 (@Int.fdiv c.Month ((2 : Int) ^ (min (Int.toNat m.Month) 64))) (1 : Int)) == (0 : Int))
                  ) else none)
                ))
              ) else none)
            ))
          ) else none)
        ) fun t55_4 => (
          (bif t55_4 then (
            some false
          ) else (
            (bif decide ((0 : Int) ≤ m.Day) then (
              (bif decide ((0 : Int) ≤ m.Week) then (
                (Option.bind (
                  (bif (!c.AnyDay) then (
                    some (!c.AnyWeek)
                  ) else (
                    some false
                  ))
                ) fun t77_5 => (
                  (bif t77_5 then (
                    (bif ((@ibits BinOp.and IntKind.u64 (@Int.fdiv c.Day ((2 : Int) ^ (min (Int.toNat m.Day) 64))) (1 : Int)) == (1 : Int)) then (
                      some true
                    ) else (
                      some ((@ibits BinOp.and IntKind.u64 (@Int.fdiv c.Week ((2 : Int) ^ (min (Int.toNat m.Week) 64))) (1 : Int)) == (1 : Int))
                    ))
                  ) else (
                    (bif ((@ibits BinOp.and IntKind.u64 (@Int.fdiv c.Day ((2 : Int) ^ (min (Int.toNat m.Day) 64))) (1 : Int)) == (1 : Int)) then (
                      some ((@ibits BinOp.and IntKind.u64 (@Int.fdiv c.Week ((2 : Int) ^ (min (Int.toNat m.Week) 64))) (1 : Int)) == (1 : Int))
                    ) else (
                      some false
                    ))
                  ))
                ))
              ) else none)
            ) else none)
          ))
        ))
      ))
    ))
  ))


def _due_seeker__fits (F : Nat) (s_0 : Int) (s_1 : Int) (s_2 : Int) (s_3 : Int) (s_4 : Int) (s_5 : Bool) (s_6 : Bool) (t : Int) : Option Bool :=
  (Option.bind (__zone_Zone__Local F t) fun y_0 => (
    (bif (y_0.2 == (0 : Int)) then (
      (Option.bind (cron_Fits F (api_Cron.mk s_0 s_1 s_2 s_3 s_4 s_5 s_6) y_0.1) fun y_1 => (
        some y_1
      ))
    ) else (
      some false
    ))
  ))


def _due_seeker__part (F : Nat) (s_0 : Int) (s_1 : Int) (s_2 : Int) (s_3 : Int) (s_4 : Int) (s_5 : Bool) (s_6 : Bool) (m : api_Civil) : Option (Bool × Bool) :=
  (bif decide ((0 : Int) ≤ m.Minute) then (
    (bif decide ((0 : Int) ≤ m.Hour) then (
      (Option.bind (cron_Fits F (api_Cron.mk (IntKind.wrap IntKind.u64 ((1 : Int) * ((2 : Int) ^ (min (Int.toNat m.Minute) 64)))) (IntKind.wrap IntKind.u64 ((1 : Int) * ((2 : Int) ^ (min (Int.toNat m.Hour) 64)))) s_2 s_3 s_4 s_5 s_6) m) fun y_0 => (
        (bif (!y_0) then (
          some (false, false)
        ) else (
          (bif decide ((0 : Int) ≤ m.Hour) then (
            some (true, ((@ibits BinOp.and IntKind.u64 (@Int.fdiv s_1 ((2 : Int) ^ (min (Int.toNat m.Hour) 64))) (1 : Int)) == (1 : Int)))
          ) else none)
        ))
      ))
    ) else none)
  ) else none)


def __zone_Zone__Turn (F : Nat) (t : Int) : Option (Int × Int) :=
  (Option.bind (__zone_Zone__Offset F t) fun y_0 => (
    (bif (y_0.2 != (0 : Int)) then (
      some ((0 : Int), y_0.2)
    ) else (
      none
    ))
  ))


def _due_seeker__ahead (F : Nat) (s_0 : Int) (s_1 : Int) (s_2 : Int) (s_3 : Int) (s_4 : Int) (s_5 : Bool) (s_6 : Bool) (t : Int) : Option Int :=
  (Option.bind (__zone_Zone__Local F t) fun y_0 => (
    (bif (y_0.2 != (0 : Int)) then (
      some (IntKind.wrap IntKind.i64 (t + (1 : Int)))
    ) else (
      (bif decide ((0 : Int) ≤ y_0.1.Month) then (
        (Option.bind (
          (bif ((@ibits BinOp.and IntKind.u64 (@Int.fdiv s_3 ((2 : Int) ^ (min (Int.toNat y_0.1.Month) 64))) (1 : Int)) == (0 : Int)) then (
            (Option.bind (civil_Days F y_0.1.Year y_0.1.Month) fun y_4 => (
              some (IntKind.wrap IntKind.i64 ((IntKind.wrap IntKind.i64 ((IntKind.wrap IntKind.i64 ((1440 : Int) * (IntKind.wrap IntKind.i64 ((IntKind.wrap IntKind.i64 (y_4 - y_0.1.Day)) + (1 : Int))))) - (IntKind.wrap IntKind.i64 ((60 : Int) * y_0.1.Hour)))) - y_0.1.Minute))
            ))
          ) else (
            (Option.bind (_due_seeker__part F s_0 s_1 s_2 s_3 s_4 s_5 s_6 y_0.1) fun y_5 => (
              (bif (!y_5.1) then (
                some (IntKind.wrap IntKind.i64 ((IntKind.wrap IntKind.i64 ((1440 : Int) - (IntKind.wrap IntKind.i64 ((60 : Int) * y_0.1.Hour)))) - y_0.1.Minute))
              ) else (
                (bif (!y_5.2) then (
                  some (IntKind.wrap IntKind.i64 ((60 : Int) - y_0.1.Minute))
                ) else (
                  some (1 : Int)
                ))
              ))
            ))
          ))
        ) fun skip_3 => (
          (Option.bind (__zone_Zone__Turn F t) fun y_6 => (
            some (if (y_6.1 < (IntKind.wrap IntKind.i64 (t + skip_3))) then y_6.1 else (IntKind.wrap IntKind.i64 (t + skip_3)))
          ))
        ))
      ) else none)
    ))
  ))

def _due_seeker__next_l0 (F : Nat) (s_0 : Int) (s_1 : Int) (s_2 : Int) (s_3 : Int) (s_4 : Int) (s_5 : Bool) (s_6 : Bool) (end_ : Int) : Nat → Int → Option ((((Int × Bool)) ⊕ Unit))
  | 0, _ => none
  | n_6 + 1, t_7 =>
    (bif (decide (t_7 ≤ end_)) then (
      (Option.bind (_due_seeker__fits F s_0 s_1 s_2 s_3 s_4 s_5 s_6 t_7) fun y_8 => (
        (bif y_8 then (
          some (Sum.inl (t_7, true))
        ) else (
          (Option.bind (_due_seeker__ahead F s_0 s_1 s_2 s_3 s_4 s_5 s_6 t_7) fun y_9 => (
            (_due_seeker__next_l0 F s_0 s_1 s_2 s_3 s_4 s_5 s_6 end_ n_6 y_9)
          ))
        ))
      ))
    ) else (
      some (Sum.inr ())
    ))
def _due_seeker__next (F : Nat) (s_0 : Int) (s_1 : Int) (s_2 : Int) (s_3 : Int) (s_4 : Int) (s_5 : Bool) (s_6 : Bool) (t : Int) (end_ : Int) : Option (Int × Bool) :=
  (Option.bind (
    (_due_seeker__next_l0 F s_0 s_1 s_2 s_3 s_4 s_5 s_6 end_ F t)
  ) fun o0 => Sum.elim (fun r => some r) (fun _ => (
    some ((0 : Int), false)
  )) o0)


def __zone_Zone__at (F : Nat) (z : zone_Zone) (t : Int) : Option Int :=
  none


def __zone_Zone__Offset_i1 (F : Nat) (z : zone_Zone) (t : Int) : Option (Int × Int) :=
  (Option.bind (
    (bif (decide (t < (0 : Int))) then (
      some true
    ) else (
      some (decide ((226157759 : Int) < t))
    ))
  ) fun t13_0 => (
    (bif t13_0 then (
      some ((0 : Int), (30 : Int))
    ) else (
      (Option.bind (__zone_Zone__at F (zone_Zone.mk z.rules (sync_Once.mk sync_noCopy.mk (atomic_Bool.mk atomic_noCopy.mk z.once.done.v) (sync_Mutex_135.mk sync_noCopy.mk z.once.m.mu)) z.turns) t) fun y_1 => (
        (bif decide ((0 : Int) ≤ y_1) then (
          (Option.bind ((z.turns)[(Int.toNat y_1)]?) fun y_2 => (
            some (y_2.offset, (0 : Int))
          ))
        ) else none)
      ))
    ))
  ))


def __zone_Zone__Local_i1 (F : Nat) (z : zone_Zone) (t : Int) : Option (api_Civil × Int) :=
  (Option.bind (__zone_Zone__Offset_i1 F z t) fun y_0 => (
    (bif (y_0.2 != (0 : Int)) then (
      some ((api_Civil.mk (0 : Int) (0 : Int) (0 : Int) (0 : Int) (0 : Int) (0 : Int)), y_0.2)
    ) else (
      (Option.bind (civil_From F (IntKind.wrap IntKind.i64 (t + y_0.1))) fun y_1 => (
        some (y_1.1, y_1.2)
      ))
    ))
  ))


def _due_seeker__fits_i1 (F : Nat) (s_0 : Int) (s_1 : Int) (s_2 : Int) (s_3 : Int) (s_4 : Int) (s_5 : Bool) (s_6 : Bool) (s_7 : zone_Zone) (t : Int) : Option Bool :=
  (Option.bind (__zone_Zone__Local_i1 F s_7 t) fun y_0 => (
    (bif (y_0.2 == (0 : Int)) then (
      (Option.bind (cron_Fits F (api_Cron.mk s_0 s_1 s_2 s_3 s_4 s_5 s_6) y_0.1) fun y_1 => (
        some y_1
      ))
    ) else (
      some false
    ))
  ))


def _due_seeker__part_i1 (F : Nat) (s_0 : Int) (s_1 : Int) (s_2 : Int) (s_3 : Int) (s_4 : Int) (s_5 : Bool) (s_6 : Bool) (s_7 : zone_Zone) (m : api_Civil) : Option (Bool × Bool) :=
  (bif decide ((0 : Int) ≤ m.Minute) then (
    (bif decide ((0 : Int) ≤ m.Hour) then (
      (Option.bind (cron_Fits F (api_Cron.mk (IntKind.wrap IntKind.u64 ((1 : Int) * ((2 : Int) ^ (min (Int.toNat m.Minute) 64)))) (IntKind.wrap IntKind.u64 ((1 : Int) * ((2 : Int) ^ (min (Int.toNat m.Hour) 64)))) s_2 s_3 s_4 s_5 s_6) m) fun y_0 => (
        (bif (!y_0) then (
          some (false, false)
        ) else (
          (bif decide ((0 : Int) ≤ m.Hour) then (
            some (true, ((@ibits BinOp.and IntKind.u64 (@Int.fdiv s_1 ((2 : Int) ^ (min (Int.toNat m.Hour) 64))) (1 : Int)) == (1 : Int)))
          ) else none)
        ))
      ))
    ) else none)
  ) else none)

def __zone_Zone__Turn_i1_l0 (F : Nat) (z : zone_Zone) (y_0 : (Int × Int)) (y_1 : Int) : Nat → Int → Option ((((Int × Int)) ⊕ Unit))
  | 0, _ => none
  | n_8 + 1, t29_9 =>
    (bif (decide (t29_9 < (@Nat.cast Int instNatCastInt (List.length (@cut (@List AV) (some (Operand.tmp 26)) none (List.map zone_turn.c z.turns) (Int.toNat (IntKind.wrap IntKind.i64 (y_1 + (1 : Int)))) (List.length z.turns)))))) then (
      (bif decide ((0 : Int) ≤ t29_9) then (
        (Option.bind (((List.drop (Int.toNat (IntKind.wrap IntKind.i64 (y_1 + (1 : Int)))) z.turns))[(Int.toNat t29_9)]?) fun y_11 => (
          (bif (y_11.offset != y_0.1) then (
            some (Sum.inl (y_11.from_, (0 : Int)))
          ) else (
            (__zone_Zone__Turn_i1_l0 F z y_0 y_1 n_8 (IntKind.wrap IntKind.i64 (t29_9 + (1 : Int))))
          ))
        ))
      ) else none)
    ) else (
      some (Sum.inr ())
    ))
def __zone_Zone__Turn_i1 (F : Nat) (z : zone_Zone) (t : Int) : Option (Int × Int) :=
  (Option.bind (__zone_Zone__Offset_i1 F z t) fun y_0 => (
    (bif (y_0.2 != (0 : Int)) then (
      some ((0 : Int), y_0.2)
    ) else (
      (Option.bind (__zone_Zone__at F z t) fun y_1 => (
        (bif decide ((0 : Int) ≤ (IntKind.wrap IntKind.i64 (y_1 + (1 : Int)))) then (
          (bif decide ((Int.toNat (IntKind.wrap IntKind.i64 (y_1 + (1 : Int)))) ≤ (List.length z.turns)) then (
            (bif decide ((List.length z.turns) ≤ (List.length z.turns)) then (
              (Option.bind (
                (__zone_Zone__Turn_i1_l0 F z y_0 y_1 F (0 : Int))
              ) fun o0 => Sum.elim (fun r => some r) (fun _ => (
                some ((226157760 : Int), (0 : Int))
              )) o0)
            ) else none)
          ) else none)
        ) else none)
      ))
    ))
  ))


def _due_seeker__ahead_i1 (F : Nat) (s_0 : Int) (s_1 : Int) (s_2 : Int) (s_3 : Int) (s_4 : Int) (s_5 : Bool) (s_6 : Bool) (s_7 : zone_Zone) (t : Int) : Option Int :=
  (Option.bind (__zone_Zone__Local_i1 F s_7 t) fun y_0 => (
    (bif (y_0.2 != (0 : Int)) then (
      some (IntKind.wrap IntKind.i64 (t + (1 : Int)))
    ) else (
      (bif decide ((0 : Int) ≤ y_0.1.Month) then (
        (Option.bind (
          (bif ((@ibits BinOp.and IntKind.u64 (@Int.fdiv s_3 ((2 : Int) ^ (min (Int.toNat y_0.1.Month) 64))) (1 : Int)) == (0 : Int)) then (
            (Option.bind (civil_Days F y_0.1.Year y_0.1.Month) fun y_4 => (
              some (IntKind.wrap IntKind.i64 ((IntKind.wrap IntKind.i64 ((IntKind.wrap IntKind.i64 ((1440 : Int) * (IntKind.wrap IntKind.i64 ((IntKind.wrap IntKind.i64 (y_4 - y_0.1.Day)) + (1 : Int))))) - (IntKind.wrap IntKind.i64 ((60 : Int) * y_0.1.Hour)))) - y_0.1.Minute))
            ))
          ) else (
            (Option.bind (_due_seeker__part_i1 F s_0 s_1 s_2 s_3 s_4 s_5 s_6 s_7 y_0.1) fun y_5 => (
              (bif (!y_5.1) then (
                some (IntKind.wrap IntKind.i64 ((IntKind.wrap IntKind.i64 ((1440 : Int) - (IntKind.wrap IntKind.i64 ((60 : Int) * y_0.1.Hour)))) - y_0.1.Minute))
              ) else (
                (bif (!y_5.2) then (
                  some (IntKind.wrap IntKind.i64 ((60 : Int) - y_0.1.Minute))
                ) else (
                  some (1 : Int)
                ))
              ))
            ))
          ))
        ) fun skip_3 => (
          (Option.bind (__zone_Zone__Turn_i1 F (zone_Zone.mk s_7.rules (sync_Once.mk sync_noCopy.mk (atomic_Bool.mk atomic_noCopy.mk s_7.once.done.v) (sync_Mutex_135.mk sync_noCopy.mk s_7.once.m.mu)) s_7.turns) t) fun y_6 => (
            some (if (y_6.1 < (IntKind.wrap IntKind.i64 (t + skip_3))) then y_6.1 else (IntKind.wrap IntKind.i64 (t + skip_3)))
          ))
        ))
      ) else none)
    ))
  ))

def _due_seeker__next_i1_l0 (F : Nat) (s_0 : Int) (s_1 : Int) (s_2 : Int) (s_3 : Int) (s_4 : Int) (s_5 : Bool) (s_6 : Bool) (s_7 : zone_Zone) (end_ : Int) : Nat → Int → Option ((((Int × Bool)) ⊕ Unit))
  | 0, _ => none
  | n_6 + 1, t_7 =>
    (bif (decide (t_7 ≤ end_)) then (
      (Option.bind (_due_seeker__fits_i1 F s_0 s_1 s_2 s_3 s_4 s_5 s_6 (zone_Zone.mk s_7.rules (sync_Once.mk sync_noCopy.mk (atomic_Bool.mk atomic_noCopy.mk s_7.once.done.v) (sync_Mutex_135.mk sync_noCopy.mk s_7.once.m.mu)) s_7.turns) t_7) fun y_8 => (
        (bif y_8 then (
          some (Sum.inl (t_7, true))
        ) else (
          (Option.bind (_due_seeker__ahead_i1 F s_0 s_1 s_2 s_3 s_4 s_5 s_6 (zone_Zone.mk s_7.rules (sync_Once.mk sync_noCopy.mk (atomic_Bool.mk atomic_noCopy.mk s_7.once.done.v) (sync_Mutex_135.mk sync_noCopy.mk s_7.once.m.mu)) s_7.turns) t_7) fun y_9 => (
            (_due_seeker__next_i1_l0 F s_0 s_1 s_2 s_3 s_4 s_5 s_6 s_7 end_ n_6 y_9)
          ))
        ))
      ))
    ) else (
      some (Sum.inr ())
    ))
def _due_seeker__next_i1 (F : Nat) (s_0 : Int) (s_1 : Int) (s_2 : Int) (s_3 : Int) (s_4 : Int) (s_5 : Bool) (s_6 : Bool) (s_7 : zone_Zone) (t : Int) (end_ : Int) : Option (Int × Bool) :=
  (Option.bind (
    (_due_seeker__next_i1_l0 F s_0 s_1 s_2 s_3 s_4 s_5 s_6 s_7 end_ F t)
  ) fun o0 => Sum.elim (fun r => some r) (fun _ => (
    some ((0 : Int), false)
  )) o0)


def due_Next (F : Nat) (c : api_Cron) (z : api_Zone) (after : Int) : Option (Int × Int) :=
  (Option.bind (due_seek F c z) fun y_0 => (
    (Sum.elim (fun y_0 => (
      (bif (y_0.2.2.2.2.2.2.2 != (0 : Int)) then (
        some ((0 : Int), y_0.2.2.2.2.2.2.2)
      ) else (
        (Option.bind (
          (bif (decide (after < (@Neg.neg Int Int.instNegInt (1 : Int)))) then (
            some true
          ) else (
            some (decide ((226157759 : Int) < after))
          ))
        ) fun t26_1 => (
          (bif t26_1 then (
            some ((0 : Int), (30 : Int))
          ) else (
            (Option.bind (_due_seeker__next F y_0.1 y_0.2.1 y_0.2.2.1 y_0.2.2.2.1 y_0.2.2.2.2.1 y_0.2.2.2.2.2.1 y_0.2.2.2.2.2.2.1 (IntKind.wrap IntKind.i64 (after + (1 : Int))) (226157759 : Int)) fun y_2 => (
              (bif (!y_2.2) then (
                some ((0 : Int), (60 : Int))
              ) else (
                some (y_2.1, (0 : Int))
              ))
            ))
          ))
        ))
      ))
    )) (fun y_0 => (
      (bif (y_0.2.2.2.2.2.2.2.2 != (0 : Int)) then (
        some ((0 : Int), y_0.2.2.2.2.2.2.2.2)
      ) else (
        (Option.bind (
          (bif (decide (after < (@Neg.neg Int Int.instNegInt (1 : Int)))) then (
            some true
          ) else (
            some (decide ((226157759 : Int) < after))
          ))
        ) fun t26_3 => (
          (bif t26_3 then (
            some ((0 : Int), (30 : Int))
          ) else (
            (Option.bind (_due_seeker__next_i1 F y_0.1 y_0.2.1 y_0.2.2.1 y_0.2.2.2.1 y_0.2.2.2.2.1 y_0.2.2.2.2.2.1 y_0.2.2.2.2.2.2.1 (zone_Zone.mk y_0.2.2.2.2.2.2.2.1.rules (sync_Once.mk sync_noCopy.mk (atomic_Bool.mk atomic_noCopy.mk y_0.2.2.2.2.2.2.2.1.once.done.v) (sync_Mutex_135.mk sync_noCopy.mk y_0.2.2.2.2.2.2.2.1.once.m.mu)) y_0.2.2.2.2.2.2.2.1.turns) (IntKind.wrap IntKind.i64 (after + (1 : Int))) (226157759 : Int)) fun y_4 => (
              (bif (!y_4.2) then (
                some ((0 : Int), (60 : Int))
              ) else (
                some (y_4.1, (0 : Int))
              ))
            ))
          ))
        ))
      ))
    )) y_0)
  ))


def jobs_next (F : Nat) (j : api_Job) : Option (Int × Int) :=
  (Option.bind (jobs_read F j.Expr j.Zone) fun y_0 => (
    (bif (y_0.2.2 != (0 : Int)) then (
      some ((0 : Int), y_0.2.2)
    ) else (
      (Option.bind (due_Next F y_0.1 y_0.2.1 j.Mark) fun y_1 => (
        some (y_1.1, y_1.2)
      ))
    ))
  ))


def __jobs_table__find_i1 (F : Nat) (name : (List UInt8)) (l : (List api_Job)) : Option (Int × Bool) :=
  (Option.bind (slices_BinarySearchFunc___api_Job_api_Job_string_ F l name) fun y_0 => (
    some (y_0.1, y_0.2)
  ))


def slices_Insert___api_Job_api_Job__i2 (F : Nat) (i : Int) (l : (List api_Job)) (l_2 : (List api_Job)) : Option ((List api_Job) ⊕ (List api_Job)) :=
  (bif decide ((0 : Int) ≤ i) then (
    (bif decide ((Int.toNat i) ≤ (List.length l)) then (
      (bif decide ((List.length l) ≤ (List.length l)) then (
        (bif ((@Nat.cast Int instNatCastInt (List.length l_2)) == (0 : Int)) then (
          some (Sum.inl l)
        ) else (
          (bif (i == (@Nat.cast Int instNatCastInt (List.length l))) then (
            (bif decide (((List.length l) + (List.length l_2)) ≤ LIM) then (
              some (Sum.inr (l ++ l_2))
            ) else none)
          ) else (
            none
          ))
        ))
      ) else none)
    ) else none)
  ) else none)


def __jobs_table__add_i1 (F : Nat) (c : api_Cmd) (l : (List api_Job)) : Option ((api_Result × (List api_Job)) ⊕ ((api_Result × (List api_Job) × (List api_Job)) ⊕ (api_Result × (List api_Job)))) :=
  (Option.bind (
    (Option.bind (jobs_Named F c.Name) fun y_3 => (
      (bif (!y_3) then (
        some true
      ) else (
        (bif (decide ((32 : Int) < (@Nat.cast Int instNatCastInt (List.length c.Token)))) then (
          some true
        ) else (
          (bif (decide (c.Client < (1 : Int))) then (
            some true
          ) else (
            (bif (decide ((64 : Int) < c.Client)) then (
              some true
            ) else (
              (bif (decide (c.Seq < (1 : Int))) then (
                some true
              ) else (
                (Option.bind (jobs_marked F c.Time) fun y_4 => (
                  some (!y_4)
                ))
              ))
            ))
          ))
        ))
      ))
    ))
  ) fun t43_2 => (
    (bif t43_2 then (
      (Option.bind (jobs_no F (1 : Int)) fun y_5 => (
        some (Sum.inl (y_5, l))
      ))
    ) else (
      (Option.bind (jobs_read F c.Expr c.Zone) fun y_6 => (
        (bif (y_6.2.2 != (0 : Int)) then (
          (Option.bind (jobs_no F y_6.2.2) fun y_7 => (
            some (Sum.inl (y_7, l))
          ))
        ) else (
          (Option.bind (__jobs_table__find_i1 F c.Name l) fun y_8 => (
            (bif y_8.2 then (
              (Option.bind (jobs_no F (150 : Int)) fun y_11 => (
                some (Sum.inl (y_11, l))
              ))
            ) else (
              (bif (decide ((256 : Int) ≤ (@Nat.cast Int instNatCastInt (List.length l)))) then (
                (Option.bind (jobs_no F (3 : Int)) fun y_12 => (
                  some (Sum.inl (y_12, l))
                ))
              ) else (
                (Option.bind (cron_Print F y_6.1) fun y_13 => (
                  (Option.bind (slices_Insert___api_Job_api_Job__i2 F y_8.1 l ((api_Job.mk c.Name y_13.1 c.Zone c.Token c.Client c.Seq false c.Time) :: [])) fun y_14 => (
                    (Sum.elim (fun y_14 => (
                      (Option.bind (jobs_one F (api_Job.mk c.Name y_13.1 c.Zone c.Token c.Client c.Seq false c.Time)) fun y_15 => (
                        some (Sum.inl ((api_Result.mk y_15.1 y_15.2.1 y_15.2.2), y_14))
                      ))
                    )) (fun y_14 => (
                      (Option.bind (jobs_one F (api_Job.mk c.Name y_13.1 c.Zone c.Token c.Client c.Seq false c.Time)) fun y_16 => (
                        some (Sum.inr (Sum.inr ((api_Result.mk y_16.1 y_16.2.1 y_16.2.2), y_14)))
                      ))
                    )) y_14)
                  ))
                ))
              ))
            ))
          ))
        ))
      ))
    ))
  ))


def __jobs_table__remove_i1 (F : Nat) (c : api_Cmd) (l : (List api_Job)) : Option ((api_Result × (List api_Job)) ⊕ (api_Result × (List api_Job) × (List api_Job))) :=
  (Option.bind (__jobs_table__find_i1 F c.Name l) fun y_0 => (
    (bif (!y_0.2) then (
      (Option.bind (jobs_no F (151 : Int)) fun y_1 => (
        some (Sum.inl (y_1, l))
      ))
    ) else (
      (bif decide ((0 : Int) ≤ y_0.1) then (
        (Option.bind ((l)[(Int.toNat y_0.1)]?) fun y_2 => (
          (Option.bind ((l)[(Int.toNat y_0.1)]?) fun y_3 => (
            (Option.bind (slices_Delete___api_Job_api_Job_ F l y_0.1 (IntKind.wrap IntKind.i64 (y_0.1 + (1 : Int)))) fun y_4 => (
              (Option.bind (jobs_one F y_3) fun y_5 => (
                some (Sum.inr ((api_Result.mk y_5.1 y_5.2.1 y_5.2.2), y_4, l))
              ))
            ))
          ))
        ))
      ) else none)
    ))
  ))


def __jobs_table__pause_i1 (F : Nat) (c : api_Cmd) (l : (List api_Job)) : Option (api_Result × (List api_Job)) :=
  (Option.bind (__jobs_table__find_i1 F c.Name l) fun y_0 => (
    (bif (!y_0.2) then (
      (Option.bind (jobs_no F (151 : Int)) fun y_1 => (
        some (y_1, l)
      ))
    ) else (
      (bif decide ((0 : Int) ≤ y_0.1) then (
        (Option.bind ((l)[(Int.toNat y_0.1)]?) fun y_2 => (
          (Option.bind ((l)[(Int.toNat y_0.1)]?) fun y_3 => (
            (bif y_3.Paused then (
              (Option.bind (jobs_no F (4 : Int)) fun y_4 => (
                some (y_4, l)
              ))
            ) else (
              (bif decide ((0 : Int) ≤ y_0.1) then (
                (Option.bind ((l)[(Int.toNat y_0.1)]?) fun y_5 => (
                  (Option.bind ((l)[(Int.toNat y_0.1)]?) fun y_6 => (
                    (bif decide ((0 : Int) ≤ y_0.1) then (
                      (Option.bind (((List.set l (Int.toNat y_0.1) (api_Job.mk y_6.Name y_6.Expr y_6.Zone y_6.Token y_6.Client y_6.Seq true y_6.Mark)))[(Int.toNat y_0.1)]?) fun y_7 => (
                        (Option.bind (((List.set l (Int.toNat y_0.1) (api_Job.mk y_6.Name y_6.Expr y_6.Zone y_6.Token y_6.Client y_6.Seq true y_6.Mark)))[(Int.toNat y_0.1)]?) fun y_8 => (
                          (Option.bind (jobs_one F y_8) fun y_9 => (
                            some ((api_Result.mk y_9.1 y_9.2.1 y_9.2.2), (List.set l (Int.toNat y_0.1) (api_Job.mk y_6.Name y_6.Expr y_6.Zone y_6.Token y_6.Client y_6.Seq true y_6.Mark)))
                          ))
                        ))
                      ))
                    ) else none)
                  ))
                ))
              ) else none)
            ))
          ))
        ))
      ) else none)
    ))
  ))


def __jobs_table__resume_i1 (F : Nat) (c : api_Cmd) (l : (List api_Job)) : Option (api_Result × (List api_Job)) :=
  (Option.bind (__jobs_table__find_i1 F c.Name l) fun y_0 => (
    (bif (!y_0.2) then (
      (Option.bind (jobs_no F (151 : Int)) fun y_7 => (
        some (y_7, l)
      ))
    ) else (
      (bif decide ((0 : Int) ≤ y_0.1) then (
        (Option.bind ((l)[(Int.toNat y_0.1)]?) fun y_8 => (
          (Option.bind ((l)[(Int.toNat y_0.1)]?) fun y_9 => (
            (bif (!y_9.Paused) then (
              (Option.bind (jobs_no F (4 : Int)) fun y_10 => (
                some (y_10, l)
              ))
            ) else (
              (Option.bind (jobs_marked F c.Time) fun y_11 => (
                (bif (!y_11) then (
                  (Option.bind (jobs_no F (1 : Int)) fun y_12 => (
                    some (y_12, l)
                  ))
                ) else (
                  (bif decide ((0 : Int) ≤ y_0.1) then (
                    (Option.bind ((l)[(Int.toNat y_0.1)]?) fun y_13 => (
                      (Option.bind ((l)[(Int.toNat y_0.1)]?) fun y_14 => (
                        (bif decide ((0 : Int) ≤ y_0.1) then (
                          (Option.bind ((l)[(Int.toNat y_0.1)]?) fun y_15 => (
                            (Option.bind ((l)[(Int.toNat y_0.1)]?) fun y_16 => (
                              (bif decide ((0 : Int) ≤ y_0.1) then (
                                (Option.bind (((List.set l (Int.toNat y_0.1) (api_Job.mk y_16.Name y_16.Expr y_16.Zone y_16.Token y_16.Client y_16.Seq false y_16.Mark)))[(Int.toNat y_0.1)]?) fun y_17 => (
                                  (Option.bind (((List.set l (Int.toNat y_0.1) (api_Job.mk y_16.Name y_16.Expr y_16.Zone y_16.Token y_16.Client y_16.Seq false y_16.Mark)))[(Int.toNat y_0.1)]?) fun y_18 => (
                                    (bif decide ((0 : Int) ≤ y_0.1) then (
                                      (Option.bind (((List.set (List.set l (Int.toNat y_0.1) (api_Job.mk y_16.Name y_16.Expr y_16.Zone y_16.Token y_16.Client y_16.Seq false y_16.Mark)) (Int.toNat y_0.1) (api_Job.mk y_18.Name y_18.Expr y_18.Zone y_18.Token y_18.Client y_18.Seq y_18.Paused (if (c.Time > y_14.Mark) then c.Time else y_14.Mark))))[(Int.toNat y_0.1)]?) fun y_19 => (
                                        (Option.bind (((List.set (List.set l (Int.toNat y_0.1) (api_Job.mk y_16.Name y_16.Expr y_16.Zone y_16.Token y_16.Client y_16.Seq false y_16.Mark)) (Int.toNat y_0.1) (api_Job.mk y_18.Name y_18.Expr y_18.Zone y_18.Token y_18.Client y_18.Seq y_18.Paused (if (c.Time > y_14.Mark) then c.Time else y_14.Mark))))[(Int.toNat y_0.1)]?) fun y_20 => (
                                          (Option.bind (jobs_one F y_20) fun y_21 => (
                                            some ((api_Result.mk y_21.1 y_21.2.1 y_21.2.2), (List.set (List.set l (Int.toNat y_0.1) (api_Job.mk y_16.Name y_16.Expr y_16.Zone y_16.Token y_16.Client y_16.Seq false y_16.Mark)) (Int.toNat y_0.1) (api_Job.mk y_18.Name y_18.Expr y_18.Zone y_18.Token y_18.Client y_18.Seq y_18.Paused (if (c.Time > y_14.Mark) then c.Time else y_14.Mark))))
                                          ))
                                        ))
                                      ))
                                    ) else none)
                                  ))
                                ))
                              ) else none)
                            ))
                          ))
                        ) else none)
                      ))
                    ))
                  ) else none)
                ))
              ))
            ))
          ))
        ))
      ) else none)
    ))
  ))


def __jobs_table__get_i1 (F : Nat) (c : api_Cmd) (l : (List api_Job)) : Option api_Result :=
  (Option.bind (__jobs_table__find_i1 F c.Name l) fun y_0 => (
    (bif (!y_0.2) then (
      (Option.bind (jobs_no F (151 : Int)) fun y_1 => (
        some y_1
      ))
    ) else (
      (bif decide ((0 : Int) ≤ y_0.1) then (
        (Option.bind ((l)[(Int.toNat y_0.1)]?) fun y_2 => (
          (Option.bind ((l)[(Int.toNat y_0.1)]?) fun y_3 => (
            (Option.bind (jobs_one F y_3) fun y_4 => (
              some (api_Result.mk y_4.1 y_4.2.1 y_4.2.2)
            ))
          ))
        ))
      ) else none)
    ))
  ))


def __jobs_table__next_i1 (F : Nat) (c : api_Cmd) (l : (List api_Job)) : Option api_Result :=
  (Option.bind (__jobs_table__find_i1 F c.Name l) fun y_0 => (
    (bif (!y_0.2) then (
      (Option.bind (jobs_no F (151 : Int)) fun y_1 => (
        some y_1
      ))
    ) else (
      (bif decide ((0 : Int) ≤ y_0.1) then (
        (Option.bind ((l)[(Int.toNat y_0.1)]?) fun y_2 => (
          (Option.bind ((l)[(Int.toNat y_0.1)]?) fun y_3 => (
            (Option.bind (jobs_next F y_3) fun y_4 => (
              some (api_Result.mk y_4.2 y_4.1 [])
            ))
          ))
        ))
      ) else none)
    ))
  ))


def __jobs_table__list_i1 (F : Nat) (c : api_Cmd) (l : (List api_Job)) : Option (api_Result × (List api_Job)) :=
  (Option.bind (__jobs_table__find_i1 F c.Name l) fun y_0 => (
    (bif decide ((0 : Int) ≤ y_0.1) then (
      (bif decide ((Int.toNat y_0.1) ≤ (List.length l)) then (
        (bif decide ((List.length l) ≤ (List.length l)) then (
          (bif decide (((Int.toNat y_0.1) + ((List.length l) - (Int.toNat y_0.1))) ≤ (List.length l)) then (
            (bif decide ((0 : Int) ≤ (if ((16 : Int) < (@Nat.cast Int instNatCastInt ((List.length l) - (Int.toNat y_0.1)))) then (16 : Int) else (@Nat.cast Int instNatCastInt ((List.length l) - (Int.toNat y_0.1))))) then (
              (bif decide (0 ≤ (Int.toNat (if ((16 : Int) < (@Nat.cast Int instNatCastInt ((List.length l) - (Int.toNat y_0.1)))) then (16 : Int) else (@Nat.cast Int instNatCastInt ((List.length l) - (Int.toNat y_0.1)))))) then (
                (bif decide ((Int.toNat (if ((16 : Int) < (@Nat.cast Int instNatCastInt ((List.length l) - (Int.toNat y_0.1)))) then (16 : Int) else (@Nat.cast Int instNatCastInt ((List.length l) - (Int.toNat y_0.1))))) ≤ ((List.length l) - (Int.toNat y_0.1))) then (
                  (Option.bind (slices_Clone___api_Job_api_Job_ F (List.take ((Int.toNat (if ((16 : Int) < (@Nat.cast Int instNatCastInt ((List.length (List.map api_Job.c l)) - (Int.toNat y_0.1)))) then (16 : Int) else (@Nat.cast Int instNatCastInt ((List.length (List.map api_Job.c l)) - (Int.toNat y_0.1))))) - 0) (List.drop ((Int.toNat y_0.1) + 0) l))) fun y_1 => (
                    some ((api_Result.mk (0 : Int) (0 : Int) y_1), l)
                  ))
                ) else none)
              ) else none)
            ) else none)
          ) else none)
        ) else none)
      ) else none)
    ) else none)
  ))


def __jobs_table__launch_i1 (F : Nat) (c : api_Cmd) (l : (List api_Job)) : Option ((api_Result × (List api_Job)) ⊕ (Int × Int × (List api_Job) × (List api_Job))) :=
  (Option.bind (__jobs_table__find_i1 F c.Name l) fun y_0 => (
    (bif (!y_0.2) then (
      (Option.bind (jobs_no F (151 : Int)) fun y_1 => (
        some (Sum.inl (y_1, l))
      ))
    ) else (
      (bif decide ((0 : Int) ≤ y_0.1) then (
        (Option.bind ((l)[(Int.toNat y_0.1)]?) fun y_2 => (
          (Option.bind (
            (Option.bind ((l)[(Int.toNat y_0.1)]?) fun y_6 => (
              (bif (y_6.Client != c.Client) then (
                some true
              ) else (
                (Option.bind ((l)[(Int.toNat y_0.1)]?) fun y_7 => (
                  some (y_7.Seq != c.Seq)
                ))
              ))
            ))
          ) fun t41_5 => (
            (bif t41_5 then (
              (Option.bind (jobs_no F (160 : Int)) fun y_8 => (
                some (Sum.inl (y_8, l))
              ))
            ) else (
              (Option.bind ((l)[(Int.toNat y_0.1)]?) fun y_9 => (
                (bif y_9.Paused then (
                  (Option.bind (jobs_no F (4 : Int)) fun y_10 => (
                    some (Sum.inl (y_10, l))
                  ))
                ) else (
                  (Option.bind ((l)[(Int.toNat y_0.1)]?) fun y_11 => (
                    (Option.bind (jobs_next F y_11) fun y_12 => (
                      (Option.bind (
                        (bif (y_12.2 != (0 : Int)) then (
                          some true
                        ) else (
                          some (y_12.1 != c.Time)
                        ))
                      ) fun t62_13 => (
                        (bif t62_13 then (
                          (Option.bind (jobs_no F (30 : Int)) fun y_14 => (
                            some (Sum.inl (y_14, l))
                          ))
                        ) else (
                          (Option.bind ((l)[(Int.toNat y_0.1)]?) fun y_15 => (
                            (Option.bind (((List.set l (Int.toNat y_0.1) (api_Job.mk y_15.Name y_15.Expr y_15.Zone y_15.Token y_15.Client y_15.Seq y_15.Paused c.Time)))[(Int.toNat y_0.1)]?) fun y_16 => (
                              some (Sum.inr ((0 : Int), c.Time, (List.set l (Int.toNat y_0.1) (api_Job.mk y_15.Name y_15.Expr y_15.Zone y_15.Token y_15.Client y_15.Seq y_15.Paused c.Time)), (y_16 :: [])))
                            ))
                          ))
                        ))
                      ))
                    ))
                  ))
                ))
              ))
            ))
          ))
        ))
      ) else none)
    ))
  ))


def jobs_Do (F : Nat) (list : (List api_Job)) (c : api_Cmd) : Option ((List api_Job) × api_Result) :=
  (Option.bind (jobs_Check F list) fun y_0 => (
    (bif (!y_0) then (
      (Option.bind (jobs_no F (4 : Int)) fun y_1 => (
        some ([], y_1)
      ))
    ) else (
      (Option.bind (slices_Clone___api_Job_api_Job_ F list) fun y_2 => (
        (Option.bind (jobs_commands F) fun y_3 => (
          (bif (c.Kind == y_3.1) then (
            (Option.bind (__jobs_table__add_i1 F c y_2) fun y_4 => (
              (Sum.elim (fun y_4 => (
                some (y_4.2, y_4.1)
              )) (fun y_4 => (
                (Sum.elim (fun y_4 => (
                  some (y_4.2.1, y_4.1)
                )) (fun y_4 => (
                  some (y_4.2, y_4.1)
                )) y_4)
              )) y_4)
            ))
          ) else (
            (bif (c.Kind == y_3.2.1) then (
              (Option.bind (__jobs_table__remove_i1 F c y_2) fun y_5 => (
                (Sum.elim (fun y_5 => (
                  some (y_5.2, y_5.1)
                )) (fun y_5 => (
                  some (y_5.2.1, y_5.1)
                )) y_5)
              ))
            ) else (
              (bif (c.Kind == y_3.2.2.1) then (
                (Option.bind (__jobs_table__pause_i1 F c y_2) fun y_6 => (
                  some (y_6.2, y_6.1)
                ))
              ) else (
                (bif (c.Kind == y_3.2.2.2.1) then (
                  (Option.bind (__jobs_table__resume_i1 F c y_2) fun y_7 => (
                    some (y_7.2, y_7.1)
                  ))
                ) else (
                  (bif (c.Kind == y_3.2.2.2.2.1) then (
                    (Option.bind (__jobs_table__get_i1 F c y_2) fun y_8 => (
                      some (y_2, y_8)
                    ))
                  ) else (
                    (bif (c.Kind == y_3.2.2.2.2.2.1) then (
                      (Option.bind (__jobs_table__next_i1 F c y_2) fun y_9 => (
                        some (y_2, y_9)
                      ))
                    ) else (
                      (bif (c.Kind == y_3.2.2.2.2.2.2.1) then (
                        (Option.bind (__jobs_table__list_i1 F c y_2) fun y_10 => (
                          some (y_10.2, y_10.1)
                        ))
                      ) else (
                        (bif (c.Kind == y_3.2.2.2.2.2.2.2) then (
                          (Option.bind (__jobs_table__launch_i1 F c y_2) fun y_11 => (
                            (Sum.elim (fun y_11 => (
                              some (y_11.2, y_11.1)
                            )) (fun y_11 => (
                              some (y_11.2.2.1, (api_Result.mk y_11.1 y_11.2.1 y_11.2.2.2))
                            )) y_11)
                          ))
                        ) else (
                          (Option.bind (jobs_no F (1 : Int)) fun y_12 => (
                            some (y_2, y_12)
                          ))
                        ))
                      ))
                    ))
                  ))
                ))
              ))
            ))
          ))
        ))
      ))
    ))
  ))


def matinslaw24_added (F : Nat) (seq : Int) : Option api_Event :=
  (Option.bind (jobs_Do F [] (api_Cmd.mk (1 : Int) (1 : Int) seq ([97] : List UInt8) ([48, 32, 48, 32, 42, 32, 42, 32, 42] : List UInt8) ([117, 116, 99] : List UInt8) ([] : List UInt8) (100 : Int))) fun y_0 => (
    some (api_Event.mk (0 : Int) (0 : Int) (api_Order.mk (1 : Int) (0 : Int) (0 : Int) (0 : Int) (0 : Int) ([] : List UInt8) (api_Cmd.mk (1 : Int) (1 : Int) seq ([97] : List UInt8) ([48, 32, 48, 32, 42, 32, 42, 32, 42] : List UInt8) ([117, 116, 99] : List UInt8) ([] : List UInt8) (100 : Int)) (api_Shard.mk (0 : Int) (0 : Int) (0 : Int) ([] : List UInt8) ([] : List UInt8) [] [])) y_0.2)
  ))


def judge_refused (F : Nat) (e : Int) : Option Bool :=
  (bif (e == (172 : Int)) then (
    some true
  ) else (
    (bif (e == (171 : Int)) then (
      some true
    ) else (
      (bif (e == (173 : Int)) then (
        some true
      ) else (
        some (e == (170 : Int))
      ))
    ))
  ))

def slices_Equal___api_Job_api_Job__l0 (F : Nat) (s1 : (List api_Job)) (s2 : (List api_Job)) : Nat → Int → Option (((Bool) ⊕ Unit))
  | 0, _ => none
  | n_12 + 1, t13_13 =>
    (bif (decide (t13_13 < (@Nat.cast Int instNatCastInt (List.length s1)))) then (
      (bif decide ((0 : Int) ≤ t13_13) then (
        (Option.bind ((s1)[(Int.toNat t13_13)]?) fun y_16 => (
          (bif decide ((0 : Int) ≤ t13_13) then (
            (Option.bind ((s2)[(Int.toNat t13_13)]?) fun y_17 => (
              (bif (!((y_16.Name == y_17.Name) && ((y_16.Expr == y_17.Expr) && ((y_16.Zone == y_17.Zone) && ((y_16.Token == y_17.Token) && ((y_16.Client == y_17.Client) && ((y_16.Seq == y_17.Seq) && ((y_16.Paused == y_17.Paused) && ((y_16.Mark == y_17.Mark) && true))))))))) then (
                some (Sum.inl false)
              ) else (
                (slices_Equal___api_Job_api_Job__l0 F s1 s2 n_12 (IntKind.wrap IntKind.i64 (t13_13 + (1 : Int))))
              ))
            ))
          ) else none)
        ))
      ) else none)
    ) else (
      some (Sum.inr ())
    ))
def slices_Equal___api_Job_api_Job_ (F : Nat) (s1 : (List api_Job)) (s2 : (List api_Job)) : Option Bool :=
  (bif ((@Nat.cast Int instNatCastInt (List.length s1)) != (@Nat.cast Int instNatCastInt (List.length s2))) then (
    some false
  ) else (
    (Option.bind (
      (slices_Equal___api_Job_api_Job__l0 F s1 s2 F (0 : Int))
    ) fun o0 => Sum.elim (fun r => some r) (fun _ => (
      some true
    )) o0)
  ))


def judge_same (F : Nat) (a : api_Result) (b : api_Result) : Option Bool :=
  (bif (a.Err == b.Err) then (
    (bif (a.Time == b.Time) then (
      (Option.bind (slices_Equal___api_Job_api_Job_ F a.Jobs b.Jobs) fun y_0 => (
        some y_0
      ))
    ) else (
      some false
    ))
  ) else (
    some false
  ))


def __judge_table__does (F : Nat) (c : api_Cmd) (r_ : api_Result) (c_2 : (List api_Job)) (c_3 : Bool) (m : (List (judge_mark × api_Result))) (m_5 : (List (Int × Int))) : Option (Bool × (List api_Job) × Bool) :=
  (Option.bind (jobs_Do F c_2 c) fun y_0 => (
    (Option.bind (judge_same F y_0.2 r_) fun y_1 => (
      some (y_1, y_0.1, c_3)
    ))
  ))


def __judge_table__lists_1 (F : Nat) (j : api_Job) (b : (List UInt8)) : Option Bool :=
  some (!(@Op.bytesLess j.Name b))

def slices_IndexFunc___api_Job_api_Job__l0 (F : Nat) (s : (List api_Job)) (b : (List UInt8)) : Nat → Int → Option (((Int) ⊕ Unit))
  | 0, _ => none
  | n_12 + 1, t8_13 =>
    (bif (decide (t8_13 < (@Nat.cast Int instNatCastInt (List.length s)))) then (
      (bif decide ((0 : Int) ≤ t8_13) then (
        (Option.bind ((s)[(Int.toNat t8_13)]?) fun y_16 => (
          (Option.bind (__judge_table__lists_1 F y_16 b) fun y_17 => (
            (bif y_17 then (
              some (Sum.inl t8_13)
            ) else (
              (slices_IndexFunc___api_Job_api_Job__l0 F s b n_12 (IntKind.wrap IntKind.i64 (t8_13 + (1 : Int))))
            ))
          ))
        ))
      ) else none)
    ) else (
      some (Sum.inr ())
    ))
def slices_IndexFunc___api_Job_api_Job_ (F : Nat) (s : (List api_Job)) (b : (List UInt8)) : Option Int :=
  (Option.bind (
    (slices_IndexFunc___api_Job_api_Job__l0 F s b F (0 : Int))
  ) fun o0 => Sum.elim (fun r => some r) (fun _ => (
    some (@Neg.neg Int Int.instNegInt (1 : Int))
  )) o0)


def __judge_table__lists (F : Nat) (c : api_Cmd) (r_ : api_Result) (c_2 : (List api_Job)) (c_3 : Bool) (m : (List (judge_mark × api_Result))) (m_5 : (List (Int × Int))) : Option Bool :=
  (Option.bind (
    (bif (decide ((0 : Int) < (@Nat.cast Int instNatCastInt (List.length r_.Jobs)))) then (
      (Option.bind ((r_.Jobs)[(Int.toNat (0 : Int))]?) fun y_2 => (
        some (if ((!(@Op.bytesLess c.Name y_2.Name)) = true) then c.Name else y_2.Name)
      ))
    ) else (
      some c.Name
    ))
  ) fun c_1 => (
    (Option.bind (slices_IndexFunc___api_Job_api_Job_ F c_2 c_1) fun y_3 => (
      (Option.bind (
        (bif (decide (y_3 < (0 : Int))) then (
          some (@Nat.cast Int instNatCastInt (List.length (List.map api_Job.c c_2)))
        ) else (
          some y_3
        ))
      ) fun i_4 => (
        (bif decide ((0 : Int) ≤ i_4) then (
          (bif decide ((Int.toNat i_4) ≤ (List.length c_2)) then (
            (bif decide ((List.length c_2) ≤ (List.length c_2)) then (
              (bif (r_.Err == (0 : Int)) then (
                (bif (decide ((@Nat.cast Int instNatCastInt (List.length r_.Jobs)) ≤ (@Nat.cast Int instNatCastInt (List.length (@cut (@List AV) (some (Operand.tmp 40)) none (List.map api_Job.c c_2) (Int.toNat i_4) (List.length c_2)))))) then (
                  (bif decide (0 ≤ (Int.toNat (@Nat.cast Int instNatCastInt (List.length r_.Jobs)))) then (
                    (bif decide ((Int.toNat (@Nat.cast Int instNatCastInt (List.length r_.Jobs))) ≤ (List.length (@cut (@List AV) (some (Operand.tmp 40)) none (List.map api_Job.c c_2) (Int.toNat i_4) (List.length c_2)))) then (
                      (Option.bind (slices_Equal___api_Job_api_Job_ F (List.take (Int.toNat (@Nat.cast Int instNatCastInt (List.length (List.map api_Job.c r_.Jobs)))) (List.drop (Int.toNat i_4) c_2)) r_.Jobs) fun y_5 => (
                        some y_5
                      ))
                    ) else none)
                  ) else none)
                ) else (
                  some false
                ))
              ) else (
                some false
              ))
            ) else none)
          ) else none)
        ) else none)
      ))
    ))
  ))


def __judge_table__takes (F : Nat) (e : api_Event) (c : (List api_Job)) (c_2 : Bool) (m : (List (judge_mark × api_Result))) (m_4 : (List (Int × Int))) : Option (Bool × (List api_Job) × Bool × (List (judge_mark × api_Result)) × (List (Int × Int))) :=
  (Option.bind (
    (bif c_2 then (
      some true
    ) else (
      (bif (e.Order.Kind != (1 : Int)) then (
        some true
      ) else (
        (Option.bind (judge_refused F e.Result.Err) fun y_2 => (
          some y_2
        ))
      ))
    ))
  ) fun t31_1 => (
    (bif t31_1 then (
      some (true, c, c_2, m, m_4)
    ) else (
      (Option.bind (
        (bif (e.Result.Err == (3 : Int)) then (
          some true
        ) else (
          some (decide ((256 : Int) ≤ (@Nat.cast Int instNatCastInt (List.length (List.map api_Job.c c)))))
        ))
      ) fun t42_3 => (
        (bif t42_3 then (
          some (true, c, true, m, m_4)
        ) else (
          (bif (e.Order.Cmd.Kind == (8 : Int)) then (
            (Option.bind (__judge_table__does F e.Order.Cmd e.Result c c_2 m m_4) fun y_4 => (
              some (y_4.1, y_4.2.1, y_4.2.2, m, m_4)
            ))
          ) else (
            (bif (e.Result.Err == (160 : Int)) then (
              (bif (Option.isSome (mget e.Order.Cmd.Client m_4)) then (
                some ((decide (e.Order.Cmd.Seq < (Option.getD (mget e.Order.Cmd.Client m_4) (0 : Int)))), c, c_2, m, m_4)
              ) else (
                some (false, c, c_2, m, m_4)
              ))
            ) else (
              (bif (Option.isSome (mget (judge_mark.mk e.Order.Cmd.Client e.Order.Cmd.Seq) m)) then (
                (Option.bind (judge_same F (Option.getD (mget (judge_mark.mk e.Order.Cmd.Client e.Order.Cmd.Seq) m) (api_Result.mk (0 : Int) (0 : Int) [])) e.Result) fun y_5 => (
                  some (y_5, c, c_2, m, m_4)
                ))
              ) else (
                (bif decide (List.length m + 1 ≤ LIM) then (
                  (Option.bind (
                    (bif (!(Option.isSome (mget e.Order.Cmd.Client m_4))) then (
                      some true
                    ) else (
                      some (decide ((Option.getD (mget e.Order.Cmd.Client m_4) (0 : Int)) < e.Order.Cmd.Seq))
                    ))
                  ) fun t104_6 => (
                    (Option.bind (
                      (bif t104_6 then (
                        (bif decide (List.length m_4 + 1 ≤ LIM) then (
                          some (mput e.Order.Cmd.Client e.Order.Cmd.Seq m_4)
                        ) else none)
                      ) else (
                        some m_4
                      ))
                    ) fun m_7 => (
                      (bif (e.Order.Cmd.Kind == (7 : Int)) then (
                        (Option.bind (__judge_table__lists F e.Order.Cmd e.Result c c_2 (mput (judge_mark.mk e.Order.Cmd.Client e.Order.Cmd.Seq) e.Result m) m_7) fun y_8 => (
                          some (y_8, c, c_2, (mput (judge_mark.mk e.Order.Cmd.Client e.Order.Cmd.Seq) e.Result m), m_7)
                        ))
                      ) else (
                        (Option.bind (__judge_table__does F e.Order.Cmd e.Result c c_2 (mput (judge_mark.mk e.Order.Cmd.Client e.Order.Cmd.Seq) e.Result m) m_7) fun y_9 => (
                          some (y_9.1, y_9.2.1, y_9.2.2, (mput (judge_mark.mk e.Order.Cmd.Client e.Order.Cmd.Seq) e.Result m), m_7)
                        ))
                      ))
                    ))
                  ))
                ) else none)
              ))
            ))
          ))
        ))
      ))
    ))
  ))

def judge_run_l0 (F : Nat) (list : (List api_Event)) : Nat → Int → (List api_Job) → Bool → (List (judge_mark × api_Result)) → (List (Int × Int)) → Option ((((Int × (List api_Job) × Bool × (List (judge_mark × api_Result)) × (List (Int × Int)))) ⊕ ((List api_Job) × Bool × (List (judge_mark × api_Result)) × (List (Int × Int)))))
  | 0, _, _, _, _, _ => none
  | n_16 + 1, t14_17, c_18, c_19, m_20, m_21 =>
    (bif (decide (t14_17 < (@Nat.cast Int instNatCastInt (List.length list)))) then (
      (bif decide ((0 : Int) ≤ t14_17) then (
        (Option.bind ((list)[(Int.toNat t14_17)]?) fun y_24 => (
          (Option.bind (__judge_table__takes F y_24 c_18 c_19 m_20 m_21) fun y_25 => (
            (bif (!y_25.1) then (
              some (Sum.inl (t14_17, c_18, y_25.2.2.1, y_25.2.2.2.1, y_25.2.2.2.2))
            ) else (
              (judge_run_l0 F list n_16 (IntKind.wrap IntKind.i64 (t14_17 + (1 : Int))) y_25.2.1 y_25.2.2.1 y_25.2.2.2.1 y_25.2.2.2.2)
            ))
          ))
        ))
      ) else none)
    ) else (
      some (Sum.inr (c_18, c_19, m_20, m_21))
    ))
def judge_run (F : Nat) (list : (List api_Event)) : Option (Int × (List api_Job) × Bool × (List (judge_mark × api_Result)) × (List (Int × Int))) :=
  (Option.bind (
    (judge_run_l0 F list F (0 : Int) [] false [] [])
  ) fun o0 => Sum.elim (fun r => some r) (fun (c_8, c_9, m_10, m_11) => (
    some ((@Nat.cast Int instNatCastInt (List.length (List.map api_Event.c list))), c_8, c_9, m_10, m_11)
  )) o0)


def judge_Events (F : Nat) (list : (List api_Event)) : Option Int :=
  (Option.bind (judge_run F list) fun y_0 => (
    some y_0.1
  ))


def judge_Table (F : Nat) (list : (List api_Event)) : Option (List api_Job) :=
  (Option.bind (judge_run F list) fun y_0 => (
    (Option.bind (slices_Clone___api_Job_api_Job_ F y_0.2.1) fun y_1 => (
      some y_1
    ))
  ))


def judge_Calls_1 (F : Nat) (e : api_Event) (b : api_Call) : Option Bool :=
  (bif (e.Order.Kind == (1 : Int)) then (
    (bif ((e.Order.Cmd.Kind == b.Cmd.Kind) && ((e.Order.Cmd.Client == b.Cmd.Client) && ((e.Order.Cmd.Seq == b.Cmd.Seq) && ((e.Order.Cmd.Name == b.Cmd.Name) && ((e.Order.Cmd.Expr == b.Cmd.Expr) && ((e.Order.Cmd.Zone == b.Cmd.Zone) && ((e.Order.Cmd.Token == b.Cmd.Token) && ((e.Order.Cmd.Time == b.Cmd.Time) && true)))))))) then (
      (bif (decide (b.From ≤ e.Step)) then (
        (bif (decide (e.Step ≤ b.To)) then (
          (Option.bind (judge_same F e.Result b.Result) fun y_0 => (
            some y_0
          ))
        ) else (
          some false
        ))
      ) else (
        some false
      ))
    ) else (
      some false
    ))
  ) else (
    some false
  ))

def slices_IndexFunc___api_Event_api_Event__l0 (F : Nat) (s : (List api_Event)) (b : api_Call) : Nat → Int → Option (((Int) ⊕ Unit))
  | 0, _ => none
  | n_12 + 1, t8_13 =>
    (bif (decide (t8_13 < (@Nat.cast Int instNatCastInt (List.length s)))) then (
      (bif decide ((0 : Int) ≤ t8_13) then (
        (Option.bind ((s)[(Int.toNat t8_13)]?) fun y_16 => (
          (Option.bind (judge_Calls_1 F y_16 b) fun y_17 => (
            (bif y_17 then (
              some (Sum.inl t8_13)
            ) else (
              (slices_IndexFunc___api_Event_api_Event__l0 F s b n_12 (IntKind.wrap IntKind.i64 (t8_13 + (1 : Int))))
            ))
          ))
        ))
      ) else none)
    ) else (
      some (Sum.inr ())
    ))
def slices_IndexFunc___api_Event_api_Event_ (F : Nat) (s : (List api_Event)) (b : api_Call) : Option Int :=
  (Option.bind (
    (slices_IndexFunc___api_Event_api_Event__l0 F s b F (0 : Int))
  ) fun o0 => Sum.elim (fun r => some r) (fun _ => (
    some (@Neg.neg Int Int.instNegInt (1 : Int))
  )) o0)


def slices_ContainsFunc___api_Event_api_Event_ (F : Nat) (s : (List api_Event)) (b : api_Call) : Option Bool :=
  (Option.bind (slices_IndexFunc___api_Event_api_Event_ F s b) fun y_0 => (
    some (decide ((0 : Int) ≤ y_0))
  ))

def judge_Calls_l0 (F : Nat) (list : (List api_Event)) (calls : (List api_Call)) : Nat → Int → Option (((Int) ⊕ Unit))
  | 0, _ => none
  | n_18 + 1, t10_19 =>
    (bif (decide (t10_19 < (@Nat.cast Int instNatCastInt (List.length calls)))) then (
      (bif decide ((0 : Int) ≤ t10_19) then (
        (Option.bind ((calls)[(Int.toNat t10_19)]?) fun y_23 => (
          (Option.bind (
            (bif (y_23.Result.Err != (181 : Int)) then (
              (Option.bind (slices_ContainsFunc___api_Event_api_Event_ F list y_23) fun y_26 => (
                some (!y_26)
              ))
            ) else (
              some false
            ))
          ) fun t25_25 => (
            (bif t25_25 then (
              some (Sum.inl t10_19)
            ) else (
              (judge_Calls_l0 F list calls n_18 (IntKind.wrap IntKind.i64 (t10_19 + (1 : Int))))
            ))
          ))
        ))
      ) else none)
    ) else (
      some (Sum.inr ())
    ))
def judge_Calls (F : Nat) (list : (List api_Event)) (calls : (List api_Call)) : Option Int :=
  (Option.bind (
    (judge_Calls_l0 F list calls F (0 : Int))
  ) fun o4 => Sum.elim (fun r => some r) (fun _ => (
    some (@Nat.cast Int instNatCastInt (List.length (List.map api_Call.c calls)))
  )) o4)

def matinslaw24_awake (F : Nat) : Option Bool :=
  (Option.bind (matinslaw24_added F (1 : Int)) fun y_0 => (
    (Option.bind (matinslaw24_added F (1 : Int)) fun y_1 => (
      (Option.bind (matinslaw24_added F (2 : Int)) fun y_2 => (
        (Option.bind (judge_Events F (y_0 :: (y_0 :: []))) fun y_3 => (
          (bif (y_3 == (2 : Int)) then (
            (Option.bind (judge_Events F (y_0 :: ((api_Event.mk y_1.Step y_1.Group y_1.Order (api_Result.mk (150 : Int) (0 : Int) [])) :: []))) fun y_4 => (
              (bif (y_4 == (1 : Int)) then (
                (Option.bind (judge_Events F (y_0 :: (y_2 :: []))) fun y_5 => (
                  (bif (y_5 == (1 : Int)) then (
                    (Option.bind (judge_Table F (y_0 :: (y_0 :: []))) fun y_6 => (
                      (bif ((@Nat.cast Int instNatCastInt (List.length y_6)) == (1 : Int)) then (
                        (Option.bind (judge_Calls F [] ((api_Call.mk (0 : Int) (0 : Int) (api_Cmd.mk (0 : Int) (0 : Int) (0 : Int) ([] : List UInt8) ([] : List UInt8) ([] : List UInt8) ([] : List UInt8) (0 : Int)) (0 : Int) (0 : Int) (api_Result.mk (0 : Int) (0 : Int) [])) :: [])) fun y_7 => (
                          some (y_7 == (0 : Int))
                        ))
                      ) else (
                        some false
                      ))
                    ))
                  ) else (
                    some false
                  ))
                ))
              ) else (
                some false
              ))
            ))
          ) else (
            some false
          ))
        ))
      ))
    ))
  ))


def matinslaw24_JudgeWidens (F : Nat) (list : (List api_Event)) (more : (List api_Event)) (c : api_Call) (early : Int) (late : Int) : Option Bool :=
  (Option.bind (matinslaw24_awake F) fun y_0 => (
    (bif (!y_0) then (
      some false
    ) else (
      (Option.bind (
        (bif (decide ((200 : Int) < (@Nat.cast Int instNatCastInt (List.length list)))) then (
          some true
        ) else (
          (bif (decide ((200 : Int) < (@Nat.cast Int instNatCastInt (List.length more)))) then (
            some true
          ) else (
            (bif (decide (early < (0 : Int))) then (
              some true
            ) else (
              (bif (decide ((1073741824 : Int) < early)) then (
                some true
              ) else (
                (bif (decide (late < (0 : Int))) then (
                  some true
                ) else (
                  (bif (decide ((1073741824 : Int) < late)) then (
                    some true
                  ) else (
                    (bif (decide (c.From < (@Neg.neg Int Int.instNegInt (1099511627776 : Int)))) then (
                      some true
                    ) else (
                      (bif (decide ((1099511627776 : Int) < c.From)) then (
                        some true
                      ) else (
                        (bif (decide (c.To < (@Neg.neg Int Int.instNegInt (1099511627776 : Int)))) then (
                          some true
                        ) else (
                          some (decide ((1099511627776 : Int) < c.To))
                        ))
                      ))
                    ))
                  ))
                ))
              ))
            ))
          ))
        ))
      ) fun t60_1 => (
        (bif t60_1 then (
          some true
        ) else (
          (bif decide ((0 + (List.length list)) ≤ LIM) then (
            (bif decide (((List.length list) + (List.length more)) ≤ LIM) then (
              (Option.bind (judge_Calls F list (c :: [])) fun y_2 => (
                (Option.bind (judge_Calls F (([] ++ list) ++ more) ((api_Call.mk c.Client c.Seq c.Cmd (IntKind.wrap IntKind.i64 (c.From - early)) (IntKind.wrap IntKind.i64 (c.To + late)) c.Result) :: [])) fun y_3 => (
                  (bif (y_2 == (0 : Int)) then (
                    (bif (y_3 == (0 : Int)) then (
                      some (decide (y_2 ≤ y_3))
                    ) else (
                      (bif (y_3 == (1 : Int)) then (
                        some (decide (y_2 ≤ y_3))
                      ) else (
                        some false
                      ))
                    ))
                  ) else (
                    (bif (y_2 == (1 : Int)) then (
                      (bif (y_3 == (0 : Int)) then (
                        some (decide (y_2 ≤ y_3))
                      ) else (
                        (bif (y_3 == (1 : Int)) then (
                          some (decide (y_2 ≤ y_3))
                        ) else (
                          some false
                        ))
                      ))
                    ) else (
                      some false
                    ))
                  ))
                ))
              ))
            ) else none)
          ) else none)
        ))
      ))
    ))
  ))

end Go.T
