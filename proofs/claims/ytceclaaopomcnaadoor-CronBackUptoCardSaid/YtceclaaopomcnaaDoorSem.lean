/-
  SemCr: the typed functions that the program's functions compute. Printed by a program.
-/
import Derived.Test.YtceclaaopomcnaaDoorTy
set_option linter.unusedVariables false
set_option maxRecDepth 200000
namespace Go.T
open Go Go.Ab
def strings_FieldsFunc (F : Nat) (s : (List UInt8)) : Option (List (List UInt8)) := bif decide (List.length s ≤ LIM ∧ List.length (fieldsS blankP s) ≤ LIM) then some (fieldsS blankP s) else none

def strings_Split (F : Nat) (s sep : (List UInt8)) : Option (List (List UInt8)) := bif decide (List.length s ≤ 1048576000 ∧ 1 ≤ List.length sep) then some (splitS s sep) else none

def strings_Cut (F : Nat) (s sep : (List UInt8)) : Option ((List UInt8) × (List UInt8) × Bool) := bif decide (List.length s < 4294967281) then some (Lib.cut s sep) else none

def strings_Trim (F : Nat) (s cs : (List UInt8)) : Option (List UInt8) := bif decide (List.length s ≤ LIM ∧ List.length cs ≤ LIM ∧ (cs.all fun b => decide (b.toNat < 128)) = true) then some (Lib.trimS s cs) else none

def strconv_Atoi (F : Nat) (s : (List UInt8)) : Option Int := match Lib.atoiAll s with | .ok v => bif decide (List.length s ≤ LIM) then some v else none | _ => none


def cron_number (F : Nat) (s : (List UInt8)) : Option (Int × Bool) :=
  (Option.bind (
    (bif (decide ((@Nat.cast Int instNatCastInt (List.length s)) < (1 : Int))) then (
      some true
    ) else (
      (bif (decide ((4 : Int) < (@Nat.cast Int instNatCastInt (List.length s)))) then (
        some true
      ) else (
        (Option.bind (strings_Trim F s ([48, 49, 50, 51, 52, 53, 54, 55, 56, 57] : List UInt8)) fun y_2 => (
          some (!(y_2 == ([] : List UInt8)))
        ))
      ))
    ))
  ) fun t18_1 => (
    (bif t18_1 then (
      some ((0 : Int), false)
    ) else (
      (Option.bind (strconv_Atoi F s) fun y_3 => (
        some (y_3, true)
      ))
    ))
  ))


def cron_read (F : Nat) (s : (List UInt8)) (f : cron_span) : Option (cron_item × Bool) :=
  (Option.bind (strings_Cut F s ([47] : List UInt8)) fun y_0 => (
    (Option.bind (
      (bif y_0.2.2 then (
        (Option.bind (cron_number F y_0.2.1) fun y_4 => (
          some (y_4.1, y_4.2)
        ))
      ) else (
        some ((1 : Int), true)
      ))
    ) fun (step_2, ok_3) => (
      (bif (y_0.1 == ([42] : List UInt8)) then (
        some ((cron_item.mk f.least f.most step_2), ok_3)
      ) else (
        (Option.bind (strings_Cut F y_0.1 ([45] : List UInt8)) fun y_5 => (
          (Option.bind (cron_number F y_5.1) fun y_6 => (
            (Option.bind (
              (bif y_5.2.2 then (
                (Option.bind (cron_number F y_5.2.1) fun y_10 => (
                  some (y_10.1, y_10.2)
                ))
              ) else (
                some (y_6.1, true)
              ))
            ) fun (to__8, so_9) => (
              (bif ok_3 then (
                (bif y_6.2 then (
                  (bif so_9 then (
                    (bif y_5.2.2 then (
                      some ((cron_item.mk y_6.1 to__8 step_2), true)
                    ) else (
                      some ((cron_item.mk y_6.1 to__8 step_2), (!y_0.2.2))
                    ))
                  ) else (
                    some ((cron_item.mk y_6.1 to__8 step_2), false)
                  ))
                ) else (
                  some ((cron_item.mk y_6.1 to__8 step_2), false)
                ))
              ) else (
                some ((cron_item.mk y_6.1 to__8 step_2), false)
              ))
            ))
          ))
        ))
      ))
    ))
  ))


def cron_all (F : Nat) (least : Int) (most : Int) : Option Int :=
  (bif decide ((0 : Int) ≤ (IntKind.wrap IntKind.i64 (most + (1 : Int)))) then (
    (bif decide ((0 : Int) ≤ least) then (
      some (IntKind.wrap IntKind.u64 ((IntKind.wrap IntKind.u64 ((1 : Int) * ((2 : Int) ^ (min (Int.toNat (IntKind.wrap IntKind.i64 (most + (1 : Int)))) 64)))) - (IntKind.wrap IntKind.u64 ((1 : Int) * ((2 : Int) ^ (min (Int.toNat least) 64))))))
    ) else none)
  ) else none)

def cron_field_l1 (F : Nat) (y_42 : (cron_item × Bool)) (c_45 : Int) : Nat → Int → Int → Option (Int)
  | 0, _, _ => none
  | n_47 + 1, bits_48, k_49 =>
    (bif (decide (k_49 ≤ c_45)) then (
      (bif decide ((0 : Int) ≤ k_49) then (
        (cron_field_l1 F y_42 c_45 n_47 (@ibits BinOp.or IntKind.u64 bits_48 (IntKind.wrap IntKind.u64 ((1 : Int) * ((2 : Int) ^ (min (Int.toNat k_49) 64))))) (IntKind.wrap IntKind.i64 (k_49 + y_42.1.step)))
      ) else none)
    ) else (
      some bits_48
    ))
def cron_field_l0 (F : Nat) (n : Int) (c_0 : Int) (c_1 : Int) (y_2 : (List (List UInt8))) : Nat → Int → Int → Int → Option ((((Int × Int)) ⊕ (Int × Int)))
  | 0, _, _, _ => none
  | n_29 + 1, bits_30, e_31, t20_32 =>
    (bif (decide (t20_32 < (@Nat.cast Int instNatCastInt (List.length y_2)))) then (
      (Option.bind (
        (bif decide ((0 : Int) ≤ t20_32) then (
          (Option.bind ((y_2)[(Int.toNat t20_32)]?) fun y_41 => (
            (Option.bind (cron_read F y_41 (cron_span.mk c_0 c_1)) fun y_42 => (
              (bif (!y_42.2) then (
                some (Sum.inl ((0 : Int), (50 : Int)))
              ) else (
                (Option.bind (
                  (bif (decide (y_42.1.from_ < c_0)) then (
                    some true
                  ) else (
                    (bif (decide (c_1 < y_42.1.to_)) then (
                      some true
                    ) else (
                      (bif (decide (y_42.1.to_ < y_42.1.from_)) then (
                        some true
                      ) else (
                        some (y_42.1.step == (0 : Int))
                      ))
                    ))
                  ))
                ) fun t55_43 => (
                  (bif t55_43 then (
                    some (Sum.inr (bits_30, (51 : Int)))
                  ) else (
                    (Option.bind (
                      (bif (y_41 == ([42] : List UInt8)) then (
                        some (n == (4 : Int))
                      ) else (
                        some false
                      ))
                    ) fun t61_44 => (
                      (Option.bind (
                        (bif t61_44 then (
                          some (6 : Int)
                        ) else (
                          some y_42.1.to_
                        ))
                      ) fun c_45 => (
                        (Option.bind (
                          (cron_field_l1 F y_42 c_45 F bits_30 y_42.1.from_)
                        ) fun bits_46 => (
                          some (Sum.inr (bits_46, e_31))
                        ))
                      ))
                    ))
                  ))
                ))
              ))
            ))
          ))
        ) else none)
      ) fun o21 => Sum.elim (fun r => some (Sum.inl r)) (fun (bits_39, e_40) => (
        (cron_field_l0 F n c_0 c_1 y_2 n_29 bits_39 e_40 (IntKind.wrap IntKind.i64 (t20_32 + (1 : Int))))
      )) o21)
    ) else (
      some (Sum.inr (bits_30, e_31))
    ))
def cron_field (F : Nat) (s : (List UInt8)) (n : Int) : Option (Int × Int) :=
  (Option.bind (
    (bif decide ((0 : Int) ≤ n) then (
      (bif decide (n < (5 : Int)) then (
        (bif (n == (0 : Int)) then (
          some ((0 : Int), (59 : Int))
        ) else (
          (bif (n == (1 : Int)) then (
            some ((0 : Int), (23 : Int))
          ) else (
            (bif (n == (2 : Int)) then (
              some ((1 : Int), (31 : Int))
            ) else (
              (bif (n == (3 : Int)) then (
                some ((1 : Int), (12 : Int))
              ) else (
                (bif (n == (4 : Int)) then (
                  some ((0 : Int), (7 : Int))
                ) else (
                  none
                ))
              ))
            ))
          ))
        ))
      ) else none)
    ) else none)
  ) fun (c_0, c_1) => (
    (Option.bind (strings_Split F s ([44] : List UInt8)) fun y_2 => (
      (Option.bind (
        (cron_field_l0 F n c_0 c_1 y_2 F (0 : Int) (0 : Int) (0 : Int))
      ) fun o11 => Sum.elim (fun r => some r) (fun (bits_19, e_20) => (
        (Option.bind (
          (bif (n == (4 : Int)) then (
            some ((@Int.fdiv bits_19 ((2 : Int) ^ (min (Int.toNat (7 : Int)) 64))) != (0 : Int))
          ) else (
            some false
          ))
        ) fun t84_50 => (
          (Option.bind (
            (bif t84_50 then (
              (Option.bind (cron_all F (0 : Int) (6 : Int)) fun y_53 => (
                some (@ibits BinOp.or IntKind.u64 (@ibits BinOp.and IntKind.u64 bits_19 y_53) (1 : Int))
              ))
            ) else (
              some bits_19
            ))
          ) fun bits_52 => (
            some (bits_52, e_20)
          ))
        ))
      )) o11)
    ))
  ))

def cron_Parse_l0 (F : Nat) (y_0 : (List (List UInt8))) : Nat → Int → Int → Int → Int → Int → Int → Option ((((api_Cron × Int × Int)) ⊕ (Int × Int × Int × Int × Int)))
  | 0, _, _, _, _, _, _ => none
  | n_52 + 1, t23_53, c_54, c_55, c_56, c_57, c_58 =>
    (bif (decide (t23_53 < (@Nat.cast Int instNatCastInt (List.length y_0)))) then (
      (bif decide ((0 : Int) ≤ t23_53) then (
        (Option.bind ((y_0)[(Int.toNat t23_53)]?) fun y_66 => (
          (Option.bind (cron_field F y_66 t23_53) fun y_67 => (
            (bif (y_67.2 != (0 : Int)) then (
              some (Sum.inl ((api_Cron.mk (0 : Int) (0 : Int) (0 : Int) (0 : Int) (0 : Int) false false), t23_53, y_67.2))
            ) else (
              (Option.bind (
                (bif decide ((0 : Int) ≤ t23_53) then (
                  (bif decide (t23_53 < (5 : Int)) then (
                    (bif (t23_53 == (0 : Int)) then (
                      some (y_67.1, c_55, c_56, c_57, c_58)
                    ) else (
                      (bif (t23_53 == (1 : Int)) then (
                        some (c_54, y_67.1, c_56, c_57, c_58)
                      ) else (
                        (bif (t23_53 == (2 : Int)) then (
                          some (c_54, c_55, y_67.1, c_57, c_58)
                        ) else (
                          (bif (t23_53 == (3 : Int)) then (
                            some (c_54, c_55, c_56, y_67.1, c_58)
                          ) else (
                            (bif (t23_53 == (4 : Int)) then (
                              some (c_54, c_55, c_56, c_57, y_67.1)
                            ) else (
                              none
                            ))
                          ))
                        ))
                      ))
                    ))
                  ) else none)
                ) else none)
              ) fun (c_68, c_69, c_70, c_71, c_72) => (
                (cron_Parse_l0 F y_0 n_52 (IntKind.wrap IntKind.i64 (t23_53 + (1 : Int))) c_68 c_69 c_70 c_71 c_72)
              ))
            ))
          ))
        ))
      ) else none)
    ) else (
      some (Sum.inr (c_54, c_55, c_56, c_57, c_58))
    ))
def cron_Parse (F : Nat) (text : (List UInt8)) : Option (api_Cron × Int × Int) :=
  (bif (decide ((256 : Int) < (@Nat.cast Int instNatCastInt (List.length text)))) then (
    some ((api_Cron.mk (0 : Int) (0 : Int) (0 : Int) (0 : Int) (0 : Int) false false), (0 : Int), (2 : Int))
  ) else (
    (Option.bind (strings_FieldsFunc F text) fun y_0 => (
      (bif ((@Nat.cast Int instNatCastInt (List.length y_0)) != (5 : Int)) then (
        some ((api_Cron.mk (0 : Int) (0 : Int) (0 : Int) (0 : Int) (0 : Int) false false), (5 : Int), (50 : Int))
      ) else (
        (Option.bind (
          (cron_Parse_l0 F y_0 F (0 : Int) (0 : Int) (0 : Int) (0 : Int) (0 : Int) (0 : Int))
        ) fun o4 => Sum.elim (fun r => some r) (fun (c_33, c_34, c_35, c_36, c_37) => (
          (Option.bind ((y_0)[(Int.toNat (2 : Int))]?) fun y_73 => (
            (Option.bind ((y_0)[(Int.toNat (4 : Int))]?) fun y_74 => (
              some ((api_Cron.mk c_33 c_34 c_35 c_36 c_37 (y_73 == ([42] : List UInt8)) (y_74 == ([42] : List UInt8))), (0 : Int), (0 : Int))
            ))
          ))
        )) o4)
      ))
    ))
  ))


def cron_fields (F : Nat) (c : api_Cron) : Option A_5_uint64 :=
  some (A_5_uint64.mk c.Minute c.Hour c.Day c.Month c.Week)


def cron_full (F : Nat) (field : Int) : Option Int :=
  (bif (field == (4 : Int)) then (
    (Option.bind (cron_all F (0 : Int) (6 : Int)) fun y_0 => (
      some y_0
    ))
  ) else (
    (bif decide ((0 : Int) ≤ field) then (
      (bif decide (field < (5 : Int)) then (
        (bif (field == (0 : Int)) then (
          (bif decide ((0 : Int) ≤ field) then (
            (bif decide (field < (5 : Int)) then (
              (bif (field == (0 : Int)) then (
                (Option.bind (cron_all F (0 : Int) (59 : Int)) fun y_1 => (
                  some y_1
                ))
              ) else (
                none
              ))
            ) else none)
          ) else none)
        ) else (
          (bif (field == (1 : Int)) then (
            (bif decide ((0 : Int) ≤ field) then (
              (bif decide (field < (5 : Int)) then (
                (bif (field == (0 : Int)) then none else (
                  (bif (field == (1 : Int)) then (
                    (Option.bind (cron_all F (0 : Int) (23 : Int)) fun y_2 => (
                      some y_2
                    ))
                  ) else (
                    none
                  ))
                ))
              ) else none)
            ) else none)
          ) else (
            (bif (field == (2 : Int)) then (
              (bif decide ((0 : Int) ≤ field) then (
                (bif decide (field < (5 : Int)) then (
                  (bif (field == (0 : Int)) then none else (
                    (bif (field == (1 : Int)) then none else (
                      (bif (field == (2 : Int)) then (
                        (Option.bind (cron_all F (1 : Int) (31 : Int)) fun y_3 => (
                          some y_3
                        ))
                      ) else (
                        none
                      ))
                    ))
                  ))
                ) else none)
              ) else none)
            ) else (
              (bif (field == (3 : Int)) then (
                (bif decide ((0 : Int) ≤ field) then (
                  (bif decide (field < (5 : Int)) then (
                    (bif (field == (0 : Int)) then none else (
                      (bif (field == (1 : Int)) then none else (
                        (bif (field == (2 : Int)) then none else (
                          (bif (field == (3 : Int)) then (
                            (Option.bind (cron_all F (1 : Int) (12 : Int)) fun y_4 => (
                              some y_4
                            ))
                          ) else (
                            none
                          ))
                        ))
                      ))
                    ))
                  ) else none)
                ) else none)
              ) else (
                (bif (field == (4 : Int)) then none else (
                  none
                ))
              ))
            ))
          ))
        ))
      ) else none)
    ) else none)
  ))

def cron_Check_l0 (F : Nat) (y_0 : A_5_uint64) : Nat → Int → Option (((Bool) ⊕ Unit))
  | 0, _ => none
  | n_17 + 1, t7_18 =>
    (bif (decide (t7_18 < (5 : Int))) then (
      (Option.bind (
        (bif decide ((0 : Int) ≤ t7_18) then (
          (bif decide (t7_18 < (5 : Int)) then (
            (bif (t7_18 == (0 : Int)) then (
              some y_0.e0
            ) else (
              (bif (t7_18 == (1 : Int)) then (
                some y_0.e1
              ) else (
                (bif (t7_18 == (2 : Int)) then (
                  some y_0.e2
                ) else (
                  (bif (t7_18 == (3 : Int)) then (
                    some y_0.e3
                  ) else (
                    (bif (t7_18 == (4 : Int)) then (
                      some y_0.e4
                    ) else (
                      none
                    ))
                  ))
                ))
              ))
            ))
          ) else none)
        ) else none)
      ) fun b_22 => (
        (Option.bind (
          (bif (b_22 == (0 : Int)) then (
            some true
          ) else (
            (Option.bind (cron_full F t7_18) fun y_25 => (
              some ((@ibits BinOp.andNot IntKind.u64 b_22 y_25) != (0 : Int))
            ))
          ))
        ) fun t19_24 => (
          (bif t19_24 then (
            some (Sum.inl false)
          ) else (
            (cron_Check_l0 F y_0 n_17 (IntKind.wrap IntKind.i64 (t7_18 + (1 : Int))))
          ))
        ))
      ))
    ) else (
      some (Sum.inr ())
    ))
def cron_Check (F : Nat) (c : api_Cron) : Option Bool :=
  (Option.bind (cron_fields F c) fun y_0 => (
    (Option.bind (
      (cron_Check_l0 F y_0 F (0 : Int))
    ) fun o6 => Sum.elim (fun r => some r) (fun _ => (
      (bif (!c.AnyDay) then (
        (bif (!c.AnyWeek) then (
          some true
        ) else (
          (Option.bind (cron_full F (4 : Int)) fun y_26 => (
            some (c.Week == y_26)
          ))
        ))
      ) else (
        (Option.bind (cron_full F (2 : Int)) fun y_27 => (
          (bif (c.Day == y_27) then (
            (bif (!c.AnyWeek) then (
              some true
            ) else (
              (Option.bind (cron_full F (4 : Int)) fun y_28 => (
                some (c.Week == y_28)
              ))
            ))
          ) else (
            some false
          ))
        ))
      ))
    )) o6)
  ))

def math_bits_TrailingZeros64 (F : Nat) (n : Int) : Option Int := bif decide (0 ≤ n ∧ n < 18446744073709551616) then some ((Lib.ctz 64 n.toNat : Nat) : Int) else none

def strconv_Itoa (F : Nat) (n : Int) : Option (List UInt8) := bif decide (0 ≤ n ∧ n < 100) then some (Lib.itoa n) else none

def strings_Join (F : Nat) (xs : List (List UInt8)) (sep : (List UInt8)) : Option (List UInt8) := bif decide (List.length (Lib.join xs sep) ≤ 140737488355328) then some (Lib.join xs sep) else none

def cron_runs_l0 (F : Nat) : Nat → Int → (List (List UInt8)) → Option ((List (List UInt8)))
  | 0, _, _ => none
  | n_19 + 1, b_20, l_21 =>
    (bif (b_20 != (0 : Int)) then (
      (Option.bind (math_bits_TrailingZeros64 F b_20) fun y_22 => (
        (bif decide ((0 : Int) ≤ y_22) then (
          (Option.bind (math_bits_TrailingZeros64 F (@ibits BinOp.xor IntKind.u64 (if ((@IntKind.signed IntKind.u64) = true) then (@Neg.neg Int Int.instNegInt (1 : Int)) else (@IntKind.max IntKind.u64)) (@Int.fdiv b_20 ((2 : Int) ^ (min (Int.toNat y_22) 64))))) fun y_23 => (
            (Option.bind (strconv_Itoa F y_22) fun y_24 => (
              (Option.bind (
                (bif (decide ((1 : Int) < y_23)) then (
                  (Option.bind (strconv_Itoa F (IntKind.wrap IntKind.i64 ((IntKind.wrap IntKind.i64 (y_22 + y_23)) - (1 : Int)))) fun y_27 => (
                    (bif decide (((List.length ([45] : List UInt8)) + (List.length y_27)) ≤ 9223372036854775807) then (
                      (bif decide (((List.length y_24) + (List.length (([45] : List UInt8) ++ y_27))) ≤ 9223372036854775807) then (
                        some (y_24 ++ (([45] : List UInt8) ++ y_27))
                      ) else none)
                    ) else none)
                  ))
                ) else (
                  some y_24
                ))
              ) fun s_26 => (
                (bif decide (((List.length l_21) + 1) ≤ LIM) then (
                  (Option.bind (cron_all F y_22 (IntKind.wrap IntKind.i64 ((IntKind.wrap IntKind.i64 (y_22 + y_23)) - (1 : Int)))) fun y_28 => (
                    (cron_runs_l0 F n_19 (@ibits BinOp.andNot IntKind.u64 b_20 y_28) (l_21 ++ (s_26 :: [])))
                  ))
                ) else none)
              ))
            ))
          ))
        ) else none)
      ))
    ) else (
      some l_21
    ))
def cron_runs (F : Nat) (b : Int) : Option (List UInt8) :=
  (Option.bind (
    (cron_runs_l0 F F b [])
  ) fun l_12 => (
    (Option.bind (strings_Join F l_12 ([44] : List UInt8)) fun y_29 => (
      some y_29
    ))
  ))

def cron_Print_l0 (F : Nat) (c : api_Cron) (y_1 : A_5_uint64) : Nat → Int → (List (List UInt8)) → Option ((List (List UInt8)))
  | 0, _, _ => none
  | n_16 + 1, t13_17, l_18 =>
    (bif (decide (t13_17 < (5 : Int))) then (
      (Option.bind (
        (Option.bind (
          (bif decide ((0 : Int) ≤ t13_17) then (
            (bif decide (t13_17 < (5 : Int)) then (
              (bif (t13_17 == (0 : Int)) then (
                some y_1.e0
              ) else (
                (bif (t13_17 == (1 : Int)) then (
                  some y_1.e1
                ) else (
                  (bif (t13_17 == (2 : Int)) then (
                    some y_1.e2
                  ) else (
                    (bif (t13_17 == (3 : Int)) then (
                      some y_1.e3
                    ) else (
                      (bif (t13_17 == (4 : Int)) then (
                        some y_1.e4
                      ) else (
                        none
                      ))
                    ))
                  ))
                ))
              ))
            ) else none)
          ) else none)
        ) fun b_24 => (
          (Option.bind (cron_full F t13_17) fun y_25 => (
            (Option.bind (
              (bif (t13_17 == (2 : Int)) then (
                some c.AnyDay
              ) else (
                (bif (t13_17 == (4 : Int)) then (
                  some c.AnyWeek
                ) else (
                  some (b_24 == y_25)
                ))
              ))
            ) fun star_26 => (
              (bif star_26 then (
                (bif decide (((List.length l_18) + 1) ≤ LIM) then (
                  some (l_18 ++ (([42] : List UInt8) :: []))
                ) else none)
              ) else (
                (Option.bind (cron_runs F b_24) fun y_27 => (
                  (bif decide (((List.length l_18) + 1) ≤ LIM) then (
                    some (l_18 ++ (y_27 :: []))
                  ) else none)
                ))
              ))
            ))
          ))
        ))
      ) fun l_23 => (
        (cron_Print_l0 F c y_1 n_16 (IntKind.wrap IntKind.i64 (t13_17 + (1 : Int))) l_23)
      ))
    ) else (
      some l_18
    ))
def cron_Print (F : Nat) (c : api_Cron) : Option ((List UInt8) × Int) :=
  (Option.bind (cron_Check F c) fun y_0 => (
    (bif (!y_0) then (
      some (([] : List UInt8), (1 : Int))
    ) else (
      (Option.bind (cron_fields F c) fun y_1 => (
        (Option.bind (
          (cron_Print_l0 F c y_1 F (0 : Int) [])
        ) fun l_10 => (
          (Option.bind (strings_Join F l_10 ([32] : List UInt8)) fun y_28 => (
            some (y_28, (0 : Int))
          ))
        ))
      ))
    ))
  ))


def civil_leap (F : Nat) (year : Int) : Option Bool :=
  (bif ((@Int.tmod year (4 : Int)) == (0 : Int)) then (
    (bif ((@Int.tmod year (100 : Int)) != (0 : Int)) then (
      some true
    ) else (
      some ((@Int.tmod year (400 : Int)) == (0 : Int))
    ))
  ) else (
    some false
  ))


def civil_Days (F : Nat) (year : Int) (month : Int) : Option Int :=
  (Option.bind (
    (bif (decide (year < (1970 : Int))) then (
      some true
    ) else (
      (bif (decide ((2399 : Int) < year)) then (
        some true
      ) else (
        (bif (decide (month < (1 : Int))) then (
          some true
        ) else (
          some (decide ((12 : Int) < month))
        ))
      ))
    ))
  ) fun t5_4 => (
    (bif t5_4 then (
      some (0 : Int)
    ) else (
      (Option.bind (
        (bif (month == (2 : Int)) then (
          (Option.bind (civil_leap F year) fun y_7 => (
            some y_7
          ))
        ) else (
          some false
        ))
      ) fun t20_6 => (
        (bif t20_6 then (
          some (29 : Int)
        ) else (
          (bif (month == (2 : Int)) then (
            some (28 : Int)
          ) else (
            (Option.bind (
              (bif (month == (4 : Int)) then (
                some true
              ) else (
                (bif (month == (6 : Int)) then (
                  some true
                ) else (
                  (bif (month == (9 : Int)) then (
                    some true
                  ) else (
                    some (month == (11 : Int))
                  ))
                ))
              ))
            ) fun t30_8 => (
              (bif t30_8 then (
                some (30 : Int)
              ) else (
                some (31 : Int)
              ))
            ))
          ))
        ))
      ))
    ))
  ))


def civil_number (F : Nat) (year : Int) (month : Int) (day : Int) : Option Int :=
  (Option.bind (
    (bif (decide (month ≤ (2 : Int))) then (
      some ((IntKind.wrap IntKind.i64 (year - (1 : Int))), (IntKind.wrap IntKind.i64 (month + (12 : Int))))
    ) else (
      some (year, month)
    ))
  ) fun (y_0, m_1) => (
    some (IntKind.wrap IntKind.i64 ((IntKind.wrap IntKind.i64 ((IntKind.wrap IntKind.i64 ((IntKind.wrap IntKind.i64 ((IntKind.wrap IntKind.i64 ((IntKind.wrap IntKind.i64 ((IntKind.wrap IntKind.i64 ((365 : Int) * y_0)) + (IntKind.wrap IntKind.i64 (@Int.tdiv y_0 (4 : Int))))) - (IntKind.wrap IntKind.i64 (@Int.tdiv y_0 (100 : Int))))) + (IntKind.wrap IntKind.i64 (@Int.tdiv y_0 (400 : Int))))) + (IntKind.wrap IntKind.i64 (@Int.tdiv (IntKind.wrap IntKind.i64 ((IntKind.wrap IntKind.i64 ((153 : Int) * (IntKind.wrap IntKind.i64 (m_1 - (3 : Int))))) + (2 : Int))) (5 : Int))))) + day)) - (719469 : Int)))
  ))


def civil_To (F : Nat) (c : api_Civil) : Option (Int × Int) :=
  (Option.bind (
    (bif (decide (c.Day < (1 : Int))) then (
      some true
    ) else (
      (Option.bind (civil_Days F c.Year c.Month) fun y_2 => (
        (bif (decide (y_2 < c.Day)) then (
          some true
        ) else (
          (bif (decide (c.Hour < (0 : Int))) then (
            some true
          ) else (
            (bif (decide ((23 : Int) < c.Hour)) then (
              some true
            ) else (
              (bif (decide (c.Minute < (0 : Int))) then (
                some true
              ) else (
                some (decide ((59 : Int) < c.Minute))
              ))
            ))
          ))
        ))
      ))
    ))
  ) fun t36_1 => (
    (bif t36_1 then (
      some ((0 : Int), (30 : Int))
    ) else (
      (Option.bind (civil_number F c.Year c.Month c.Day) fun y_3 => (
        some ((IntKind.wrap IntKind.i64 ((IntKind.wrap IntKind.i64 (y_3 * (1440 : Int))) + (IntKind.wrap IntKind.i64 ((IntKind.wrap IntKind.i64 ((60 : Int) * c.Hour)) + c.Minute)))), (0 : Int))
      ))
    ))
  ))


def cron_Fits (F : Nat) (c : api_Cron) (m : api_Civil) : Option Bool :=
  (Option.bind (civil_To F m) fun y_0 => (
    (Option.bind (
      (bif (y_0.2 != (0 : Int)) then (
        some true
      ) else (
        (Option.bind (cron_Check F c) fun y_3 => (
          (bif (!y_3) then (
            some true
          ) else (
            (bif (decide (m.Week < (0 : Int))) then (
              some true
            ) else (
              some (decide ((6 : Int) < m.Week))
            ))
          ))
        ))
      ))
    ) fun t30_2 => (
      (bif t30_2 then (
        some false
      ) else (
        (Option.bind (
          (bif decide ((0 : Int) ≤ m.Minute) then (
            (bif ((@ibits BinOp.and IntKind.u64 (@Int.fdiv c.Minute ((2 : Int) ^ (min (Int.toNat m.Minute) 64))) (1 : Int)) == (0 : Int)) then (
              some true
            ) else (
              (bif decide ((0 : Int) ≤ m.Hour) then (
                (bif ((@ibits BinOp.and IntKind.u64 (@Int.fdiv c.Hour ((2 : Int) ^ (min (Int.toNat m.Hour) 64))) (1 : Int)) == (0 : Int)) then (
                  some true
                ) else (
                  (bif decide ((0 : Int) ≤ m.Month) then (
                    some ((@ibits BinOp.and IntKind.u64 (@Int.fdiv c.Month ((2 : Int) ^ (min (Int.toNat m.Month) 64))) (1 : Int)) == (0 : Int))
                  ) else none)
                ))
              ) else none)
            ))
          ) else none)
        ) fun t55_4 => (
          (bif t55_4 then (
            some false
          ) else (
            (bif decide ((0 : Int) ≤ m.Day) then (
              (bif decide ((0 : Int) ≤ m.Week) then (
                (Option.bind (
                  (bif (!c.AnyDay) then (
                    some (!c.AnyWeek)
                  ) else (
                    some false
                  ))
                ) fun t77_5 => (
                  (bif t77_5 then (
                    (bif ((@ibits BinOp.and IntKind.u64 (@Int.fdiv c.Day ((2 : Int) ^ (min (Int.toNat m.Day) 64))) (1 : Int)) == (1 : Int)) then (
                      some true
                    ) else (
                      some ((@ibits BinOp.and IntKind.u64 (@Int.fdiv c.Week ((2 : Int) ^ (min (Int.toNat m.Week) 64))) (1 : Int)) == (1 : Int))
                    ))
                  ) else (
                    (bif ((@ibits BinOp.and IntKind.u64 (@Int.fdiv c.Day ((2 : Int) ^ (min (Int.toNat m.Day) 64))) (1 : Int)) == (1 : Int)) then (
                      some ((@ibits BinOp.and IntKind.u64 (@Int.fdiv c.Week ((2 : Int) ^ (min (Int.toNat m.Week) 64))) (1 : Int)) == (1 : Int))
                    ) else (
                      some false
                    ))
                  ))
                ))
              ) else none)
            ) else none)
          ))
        ))
      ))
    ))
  ))


def matinslaw06_awake (F : Nat) : Option Bool :=
  (Option.bind (cron_Parse F ([48, 32, 49, 50, 32, 42, 32, 42, 32, 49, 45, 53] : List UInt8)) fun y_0 => (
    (Option.bind (cron_Parse F ([54, 48, 32, 42, 32, 42, 32, 42, 32, 42] : List UInt8)) fun y_1 => (
      (Option.bind (cron_Print F y_0.1) fun y_2 => (
        (bif (y_0.2.1 == (0 : Int)) then (
          (bif (y_0.2.2 == (0 : Int)) then (
            (bif (y_0.1.Minute == (1 : Int)) then (
              (bif (y_0.1.Hour == (4096 : Int)) then (
                (bif (y_0.1.Week == (62 : Int)) then (
                  (bif y_0.1.AnyDay then (
                    (bif (!y_0.1.AnyWeek) then (
                      (bif (y_1.2.1 == (0 : Int)) then (
                        (bif (y_1.2.2 == (51 : Int)) then (
                          (bif (y_2.2 == (0 : Int)) then (
                            (bif (y_2.1 == ([48, 32, 49, 50, 32, 42, 32, 42, 32, 49, 45, 53] : List UInt8)) then (
                              (Option.bind (cron_Fits F y_0.1 (api_Civil.mk (2024 : Int) (3 : Int) (29 : Int) (12 : Int) (0 : Int) (5 : Int))) fun y_3 => (
                                some y_3
                              ))
                            ) else (
                              some false
                            ))
                          ) else (
                            some false
                          ))
                        ) else (
                          some false
                        ))
                      ) else (
                        some false
                      ))
                    ) else (
                      some false
                    ))
                  ) else (
                    some false
                  ))
                ) else (
                  some false
                ))
              ) else (
                some false
              ))
            ) else (
              some false
            ))
          ) else (
            some false
          ))
        ) else (
          some false
        ))
      ))
    ))
  ))


def matinslaw06_CronBack (F : Nat) (c : api_Cron) (text : (List UInt8)) : Option Bool :=
  (Option.bind (matinslaw06_awake F) fun y_0 => (
    (bif (!y_0) then (
      some false
    ) else (
      (Option.bind (cron_Print F c) fun y_1 => (
        (Option.bind (
          (bif (y_1.2 == (0 : Int)) then (
            (Option.bind (cron_Parse F y_1.1) fun y_4 => (
              (Option.bind (
                (bif (!((y_4.1.Minute == c.Minute) && ((y_4.1.Hour == c.Hour) && ((y_4.1.Day == c.Day) && ((y_4.1.Month == c.Month) && ((y_4.1.Week == c.Week) && ((y_4.1.AnyDay == c.AnyDay) && ((y_4.1.AnyWeek == c.AnyWeek) && true)))))))) then (
                  some true
                ) else (
                  (bif (y_4.2.1 != (0 : Int)) then (
                    some true
                  ) else (
                    some (y_4.2.2 != (0 : Int))
                  ))
                ))
              ) fun t43_5 => (
                (bif t43_5 then (
                  some (Sum.inl false)
                ) else (
                  some (Sum.inr ())
                ))
              ))
            ))
          ) else (
            some (Sum.inr ())
          ))
        ) fun o1 => Sum.elim (fun r => some r) (fun _ => (
          (Option.bind (cron_Parse F text) fun y_6 => (
            (bif (y_6.2.2 != (0 : Int)) then (
              some ((y_6.1.Minute == (0 : Int)) && ((y_6.1.Hour == (0 : Int)) && ((y_6.1.Day == (0 : Int)) && ((y_6.1.Month == (0 : Int)) && ((y_6.1.Week == (0 : Int)) && ((y_6.1.AnyDay == false) && ((y_6.1.AnyWeek == false) && true)))))))
            ) else (
              (Option.bind (cron_Print F y_6.1) fun y_7 => (
                (Option.bind (cron_Parse F y_7.1) fun y_8 => (
                  (Option.bind (cron_Check F y_6.1) fun y_9 => (
                    (bif y_9 then (
                      (bif (y_7.2 == (0 : Int)) then (
                        (bif (y_8.2.2 == (0 : Int)) then (
                          some ((y_8.1.Minute == y_6.1.Minute) && ((y_8.1.Hour == y_6.1.Hour) && ((y_8.1.Day == y_6.1.Day) && ((y_8.1.Month == y_6.1.Month) && ((y_8.1.Week == y_6.1.Week) && ((y_8.1.AnyDay == y_6.1.AnyDay) && ((y_8.1.AnyWeek == y_6.1.AnyWeek) && true)))))))
                        ) else (
                          some false
                        ))
                      ) else (
                        some false
                      ))
                    ) else (
                      some false
                    ))
                  ))
                ))
              ))
            ))
          ))
        )) o1)
      ))
    ))
  ))

def matinslaw06_CronLists_l0 (F : Nat) (a : (List UInt8)) (b : (List UInt8)) : Nat → Int → Option (((Bool) ⊕ Unit))
  | 0, _ => none
  | n_25 + 1, i_26 =>
    (bif (decide (i_26 < (IntKind.wrap IntKind.i64 ((@Nat.cast Int instNatCastInt (List.length a)) + (@Nat.cast Int instNatCastInt (List.length b)))))) then (
      (Option.bind (
        (bif (decide (i_26 < (@Nat.cast Int instNatCastInt (List.length a)))) then (
          (bif decide ((0 : Int) ≤ i_26) then (
            (Option.bind ((a)[(Int.toNat i_26)]?) fun y_34 => (
              some (@Nat.cast Int instNatCastInt (UInt8.toNat y_34))
            ))
          ) else none)
        ) else (
          (bif decide ((0 : Int) ≤ (IntKind.wrap IntKind.i64 (i_26 - (@Nat.cast Int instNatCastInt (List.length a))))) then (
            (Option.bind ((b)[(Int.toNat (IntKind.wrap IntKind.i64 (i_26 - (@Nat.cast Int instNatCastInt (List.length a)))))]?) fun y_35 => (
              some (@Nat.cast Int instNatCastInt (UInt8.toNat y_35))
            ))
          ) else none)
        ))
      ) fun c_33 => (
        (Option.bind (
          (bif (c_33 == (32 : Int)) then (
            some true
          ) else (
            some (c_33 == (9 : Int))
          ))
        ) fun t49_36 => (
          (bif t49_36 then (
            some (Sum.inl true)
          ) else (
            (matinslaw06_CronLists_l0 F a b n_25 (IntKind.wrap IntKind.i64 (i_26 + (1 : Int))))
          ))
        ))
      ))
    ) else (
      some (Sum.inr ())
    ))
def matinslaw06_CronLists (F : Nat) (a : (List UInt8)) (b : (List UInt8)) (rest : (List UInt8)) (m : api_Civil) : Option Bool :=
  (Option.bind (matinslaw06_awake F) fun y_0 => (
    (bif (!y_0) then (
      some false
    ) else (
      (Option.bind (
        (matinslaw06_CronLists_l0 F a b F (0 : Int))
      ) fun o8 => Sum.elim (fun r => some r) (fun _ => (
        (Option.bind (
          (bif ((@Nat.cast Int instNatCastInt (List.length a)) == (0 : Int)) then (
            some true
          ) else (
            some ((@Nat.cast Int instNatCastInt (List.length b)) == (0 : Int))
          ))
        ) fun t57_37 => (
          (bif t57_37 then (
            some true
          ) else (
            (bif decide (((List.length a) + (List.length ([32] : List UInt8))) ≤ 9223372036854775807) then (
              (bif decide (((List.length (a ++ ([32] : List UInt8))) + (List.length rest)) ≤ 9223372036854775807) then (
                (Option.bind (cron_Parse F ((a ++ ([32] : List UInt8)) ++ rest)) fun y_38 => (
                  (bif decide (((List.length b) + (List.length ([32] : List UInt8))) ≤ 9223372036854775807) then (
                    (bif decide (((List.length (b ++ ([32] : List UInt8))) + (List.length rest)) ≤ 9223372036854775807) then (
                      (Option.bind (cron_Parse F ((b ++ ([32] : List UInt8)) ++ rest)) fun y_39 => (
                        (bif decide (((List.length a) + (List.length ([44] : List UInt8))) ≤ 9223372036854775807) then (
                          (bif decide (((List.length (a ++ ([44] : List UInt8))) + (List.length b)) ≤ 9223372036854775807) then (
                            (bif decide (((List.length ((a ++ ([44] : List UInt8)) ++ b)) + (List.length ([32] : List UInt8))) ≤ 9223372036854775807) then (
                              (bif decide (((List.length (((a ++ ([44] : List UInt8)) ++ b) ++ ([32] : List UInt8))) + (List.length rest)) ≤ 9223372036854775807) then (
                                (Option.bind (cron_Parse F ((((a ++ ([44] : List UInt8)) ++ b) ++ ([32] : List UInt8)) ++ rest)) fun y_40 => (
                                  (Option.bind (
                                    (bif (y_38.2.2 != (0 : Int)) then (
                                      some true
                                    ) else (
                                      some (y_39.2.2 != (0 : Int))
                                    ))
                                  ) fun t93_41 => (
                                    (bif t93_41 then (
                                      some true
                                    ) else (
                                      (bif (y_40.2.2 != (0 : Int)) then (
                                        some (y_40.2.2 == (2 : Int))
                                      ) else (
                                        (Option.bind (cron_Fits F y_40.1 m) fun y_42 => (
                                          (Option.bind (cron_Fits F y_38.1 m) fun y_43 => (
                                            (bif y_43 then (
                                              (bif (y_42 == true) then (
                                                (bif (y_40.1.Minute == (@ibits BinOp.or IntKind.u64 y_38.1.Minute y_39.1.Minute)) then (
                                                  (bif (y_40.1.Hour == y_38.1.Hour) then (
                                                    some (y_40.1.Week == y_39.1.Week)
                                                  ) else (
                                                    some false
                                                  ))
                                                ) else (
                                                  some false
                                                ))
                                              ) else (
                                                some false
                                              ))
                                            ) else (
                                              (Option.bind (cron_Fits F y_39.1 m) fun y_44 => (
                                                (bif (y_42 == y_44) then (
                                                  (bif (y_40.1.Minute == (@ibits BinOp.or IntKind.u64 y_38.1.Minute y_39.1.Minute)) then (
                                                    (bif (y_40.1.Hour == y_38.1.Hour) then (
                                                      some (y_40.1.Week == y_39.1.Week)
                                                    ) else (
                                                      some false
                                                    ))
                                                  ) else (
                                                    some false
                                                  ))
                                                ) else (
                                                  some false
                                                ))
                                              ))
                                            ))
                                          ))
                                        ))
                                      ))
                                    ))
                                  ))
                                ))
                              ) else none)
                            ) else none)
                          ) else none)
                        ) else none)
                      ))
                    ) else none)
                  ) else none)
                ))
              ) else none)
            ) else none)
          ))
        ))
      )) o8)
    ))
  ))


def matinslaw06_CronEither (F : Nat) (c : api_Cron) (m : api_Civil) : Option Bool :=
  (Option.bind (matinslaw06_awake F) fun y_0 => (
    (bif (!y_0) then (
      some false
    ) else (
      (Option.bind (cron_Parse F ([42, 32, 42, 32, 42, 32, 42, 32, 42] : List UInt8)) fun y_1 => (
        (Option.bind (
          (bif (y_1.2.2 != (0 : Int)) then (
            some true
          ) else (
            (Option.bind (cron_Check F c) fun y_4 => (
              some (!y_4)
            ))
          ))
        ) fun t25_3 => (
          (bif t25_3 then (
            (bif (y_1.2.2 == (0 : Int)) then (
              (Option.bind (cron_Fits F c m) fun y_5 => (
                some (!y_5)
              ))
            ) else (
              some false
            ))
          ) else (
            (Option.bind (cron_Fits F (api_Cron.mk c.Minute c.Hour c.Day c.Month y_1.1.Week c.AnyDay true) m) fun y_6 => (
              (Option.bind (cron_Fits F (api_Cron.mk c.Minute c.Hour y_1.1.Day c.Month c.Week true c.AnyWeek) m) fun y_7 => (
                (Option.bind (
                  (bif c.AnyDay then (
                    some true
                  ) else (
                    some c.AnyWeek
                  ))
                ) fun t55_8 => (
                  (bif t55_8 then (
                    (Option.bind (cron_Fits F c m) fun y_9 => (
                      (bif y_6 then (
                        some (y_9 == y_7)
                      ) else (
                        some (y_9 == false)
                      ))
                    ))
                  ) else (
                    (Option.bind (cron_Fits F c m) fun y_10 => (
                      (bif y_6 then (
                        some (y_10 == true)
                      ) else (
                        some (y_10 == y_7)
                      ))
                    ))
                  ))
                ))
              ))
            ))
          ))
        ))
      ))
    ))
  ))


def matinslaw06_CronMore (F : Nat) (c : api_Cron) (bit : Int) (m : api_Civil) : Option Bool :=
  (Option.bind (matinslaw06_awake F) fun y_0 => (
    (bif (!y_0) then (
      some false
    ) else (
      (Option.bind (
        (bif (decide (bit < (0 : Int))) then (
          some true
        ) else (
          (bif (decide ((59 : Int) < bit)) then (
            some true
          ) else (
            (Option.bind (cron_Check F c) fun y_4 => (
              (bif (!y_4) then (
                some true
              ) else (
                (Option.bind (cron_Fits F c m) fun y_5 => (
                  some (!y_5)
                ))
              ))
            ))
          ))
        ))
      ) fun t28_3 => (
        (bif t28_3 then (
          some true
        ) else (
          (bif decide ((0 : Int) ≤ (IntKind.wrap IntKind.u64 bit)) then (
            (bif decide ((0 : Int) ≤ (IntKind.wrap IntKind.u64 (@Int.tmod bit (24 : Int)))) then (
              (bif decide ((0 : Int) ≤ (IntKind.wrap IntKind.u64 (IntKind.wrap IntKind.i64 ((1 : Int) + (@Int.tmod bit (12 : Int)))))) then (
                (Option.bind (cron_Check F (api_Cron.mk (@ibits BinOp.or IntKind.u64 c.Minute (IntKind.wrap IntKind.u64 ((1 : Int) * ((2 : Int) ^ (min (Int.toNat (IntKind.wrap IntKind.u64 bit)) 64))))) c.Hour c.Day c.Month c.Week c.AnyDay c.AnyWeek)) fun y_6 => (
                  (bif y_6 then (
                    (Option.bind (cron_Check F (api_Cron.mk c.Minute (@ibits BinOp.or IntKind.u64 c.Hour (IntKind.wrap IntKind.u64 ((1 : Int) * ((2 : Int) ^ (min (Int.toNat (IntKind.wrap IntKind.u64 (@Int.tmod bit (24 : Int)))) 64))))) c.Day c.Month c.Week c.AnyDay c.AnyWeek)) fun y_7 => (
                      (bif y_7 then (
                        (Option.bind (cron_Check F (api_Cron.mk c.Minute c.Hour c.Day (@ibits BinOp.or IntKind.u64 c.Month (IntKind.wrap IntKind.u64 ((1 : Int) * ((2 : Int) ^ (min (Int.toNat (IntKind.wrap IntKind.u64 (IntKind.wrap IntKind.i64 ((1 : Int) + (@Int.tmod bit (12 : Int)))))) 64))))) c.Week c.AnyDay c.AnyWeek)) fun y_8 => (
                          (bif y_8 then (
                            (Option.bind (cron_Fits F (api_Cron.mk (@ibits BinOp.or IntKind.u64 c.Minute (IntKind.wrap IntKind.u64 ((1 : Int) * ((2 : Int) ^ (min (Int.toNat (IntKind.wrap IntKind.u64 bit)) 64))))) c.Hour c.Day c.Month c.Week c.AnyDay c.AnyWeek) m) fun y_9 => (
                              (bif y_9 then (
                                (Option.bind (cron_Fits F (api_Cron.mk c.Minute (@ibits BinOp.or IntKind.u64 c.Hour (IntKind.wrap IntKind.u64 ((1 : Int) * ((2 : Int) ^ (min (Int.toNat (IntKind.wrap IntKind.u64 (@Int.tmod bit (24 : Int)))) 64))))) c.Day c.Month c.Week c.AnyDay c.AnyWeek) m) fun y_10 => (
                                  (bif y_10 then (
                                    (Option.bind (cron_Fits F (api_Cron.mk c.Minute c.Hour c.Day (@ibits BinOp.or IntKind.u64 c.Month (IntKind.wrap IntKind.u64 ((1 : Int) * ((2 : Int) ^ (min (Int.toNat (IntKind.wrap IntKind.u64 (IntKind.wrap IntKind.i64 ((1 : Int) + (@Int.tmod bit (12 : Int)))))) 64))))) c.Week c.AnyDay c.AnyWeek) m) fun y_11 => (
                                      some y_11
                                    ))
                                  ) else (
                                    some false
                                  ))
                                ))
                              ) else (
                                some false
                              ))
                            ))
                          ) else (
                            some false
                          ))
                        ))
                      ) else (
                        some false
                      ))
                    ))
                  ) else (
                    some false
                  ))
                ))
              ) else none)
            ) else none)
          ) else none)
        ))
      ))
    ))
  ))

end Go.T
