/-
  SemWa: the typed functions that the program's functions compute. Printed by a program.
-/
import Derived.Test.YtnofpgegbhegnaaGreatDoorTy
set_option linter.unusedVariables false
set_option maxRecDepth 200000
namespace Go.T
open Go Go.Ab

def disk_New (F : Nat) : Option (Int × (List ((List UInt8) × (List Int)))) :=
  some ((0 : Int), [])

def __disk_Disk__Names (F : Nat) (c : Int) (fs : (List ((List UInt8) × (List Int)))) (l : (List disk_write)) : Option (List (List UInt8)) :=
  bif decide (List.length fs ≤ LIM ∧ (List.all fs fun e => decide (List.length e.1 ≤ LIM)) = true) then some (sortS (List.map Prod.fst fs)) else none

def wal_number (F : Nat) (name : (List UInt8)) : Option Int :=
  bif decide (List.length name ≤ LIM) then some (numberL name) else none


def math_bits_Len64 (F : Nat) (x : Int) : Option Int :=
  (Option.bind (
    (bif (decide ((4294967296 : Int) ≤ x)) then (
      some ((@Int.fdiv x ((2 : Int) ^ (min (Int.toNat (32 : Int)) 64))), (32 : Int))
    ) else (
      some (x, (0 : Int))
    ))
  ) fun (x_0, n_1) => (
    (Option.bind (
      (bif (decide ((65536 : Int) ≤ x_0)) then (
        some ((@Int.fdiv x_0 ((2 : Int) ^ (min (Int.toNat (16 : Int)) 64))), (IntKind.wrap IntKind.i64 (n_1 + (16 : Int))))
      ) else (
        some (x_0, n_1)
      ))
    ) fun (x_2, n_3) => (
      (Option.bind (
        (bif (decide ((256 : Int) ≤ x_2)) then (
          some ((@Int.fdiv x_2 ((2 : Int) ^ (min (Int.toNat (8 : Int)) 64))), (IntKind.wrap IntKind.i64 (n_3 + (8 : Int))))
        ) else (
          some (x_2, n_3)
        ))
      ) fun (x_4, n_5) => (
        (bif decide ((0 : Int) ≤ (IntKind.wrap IntKind.u8 x_4)) then (
          (Option.bind ((([0, 1, 2, 2, 3, 3, 3, 3, 4, 4, 4, 4, 4, 4, 4, 4, 5, 5, 5, 5, 5, 5, 5, 5, 5, 5, 5, 5, 5, 5, 5, 5, 6, 6, 6, 6, 6, 6, 6, 6, 6, 6, 6, 6, 6, 6, 6, 6, 6, 6, 6, 6, 6, 6, 6, 6, 6, 6, 6, 6, 6, 6, 6, 6, 7, 7, 7, 7, 7, 7, 7, 7, 7, 7, 7, 7, 7, 7, 7, 7, 7, 7, 7, 7, 7, 7, 7, 7, 7, 7, 7, 7, 7, 7, 7, 7, 7, 7, 7, 7, 7, 7, 7, 7, 7, 7, 7, 7, 7, 7, 7, 7, 7, 7, 7, 7, 7, 7, 7, 7, 7, 7, 7, 7, 7, 7, 7, 7, 8, 8, 8, 8, 8, 8, 8, 8, 8, 8, 8, 8, 8, 8, 8, 8, 8, 8, 8, 8, 8, 8, 8, 8, 8, 8, 8, 8, 8, 8, 8, 8, 8, 8, 8, 8, 8, 8, 8, 8, 8, 8, 8, 8, 8, 8, 8, 8, 8, 8, 8, 8, 8, 8, 8, 8, 8, 8, 8, 8, 8, 8, 8, 8, 8, 8, 8, 8, 8, 8, 8, 8, 8, 8, 8, 8, 8, 8, 8, 8, 8, 8, 8, 8, 8, 8, 8, 8, 8, 8, 8, 8, 8, 8, 8, 8, 8, 8, 8, 8, 8, 8, 8, 8, 8, 8, 8, 8, 8, 8, 8, 8, 8, 8, 8, 8, 8, 8, 8, 8, 8, 8, 8, 8, 8, 8, 8, 8] : List UInt8))[(Int.toNat (IntKind.wrap IntKind.u8 x_4))]?) fun y_6 => (
            some (IntKind.wrap IntKind.i64 (n_5 + (IntKind.wrap IntKind.i64 (@Nat.cast Int instNatCastInt (UInt8.toNat y_6)))))
          ))
        ) else none)
      ))
    ))
  ))


def math_bits_Len (F : Nat) (x : Int) : Option Int :=
  (Option.bind (math_bits_Len64 F x) fun y_0 => (
    some y_0
  ))


def slices_Sort___int_int_ (F : Nat) (x : (List Int)) : Option Unit :=
  (Option.bind (math_bits_Len F (IntKind.wrap IntKind.u64 (@Nat.cast Int instNatCastInt (List.length (List.map (cInt IntKind.i64) x))))) fun y_0 => (
    none
  ))

def slices_Sort___int_int__i1 (F : Nat) (l : (List Int)) : Option (List Int) :=
  bif decide (List.length l ≤ LIM) then some (sortI l) else none

def slices_Backward___int_int_ (F : Nat) (s : (List Int)) : Option (List Int) :=
  some s

def strconv_Itoa (F : Nat) (i : Int) : Option (List UInt8) :=
  bif decide (-9223372036854775808 ≤ i ∧ i ≤ 9223372036854775807) then some (Lib.itoa i) else none


def __disk_Disk__there (F : Nat) (name : (List UInt8)) (c : Int) (fs : (List ((List UInt8) × (List Int)))) (l : (List disk_write)) : Option Int :=
  (bif (!(Option.isSome (mget name fs))) then (
    some (80 : Int)
  ) else (
    some (0 : Int)
  ))

def slices_Clone___byte_byte_ (F : Nat) (s : List Int) : Option (List Int) := bif decide (List.length s ≤ LIM) then some s else none

def slices_Clone___byte_byte__i1 (F : Nat) (s : List Int) : Option (List Int) := bif decide (List.length s ≤ LIM) then some s else none


def __disk_Disk__Read (F : Nat) (name : (List UInt8)) (c : Int) (fs : (List ((List UInt8) × (List Int)))) (l : (List disk_write)) : Option ((Int × (List Int)) ⊕ ((List Int) × Int)) :=
  (Option.bind (__disk_Disk__there F name c fs l) fun y_0 => (
    (bif (y_0 != (0 : Int)) then (
      some (Sum.inl (y_0, []))
    ) else (
      (bif (Option.isSome (mget name fs)) then (
        (Option.bind (slices_Clone___byte_byte__i1 F (Option.getD (mget name fs) [])) fun y_1 => (
          some (Sum.inl ((0 : Int), y_1))
        ))
      ) else (
        (Option.bind (slices_Clone___byte_byte_ F []) fun y_2 => (
          some (Sum.inr (y_2, (0 : Int)))
        ))
      ))
    ))
  ))

def code_take_l0 (F : Nat) (b : (List Int)) : Nat → Int → Int → Option ((((Int × Int × Int)) ⊕ Unit))
  | 0, _, _ => none
  | n_10 + 1, n_11, t10_12 =>
    (bif (decide (t10_12 < (@Nat.cast Int instNatCastInt (List.length b)))) then (
      (bif decide ((0 : Int) ≤ t10_12) then (
        (Option.bind ((b)[(Int.toNat t10_12)]?) fun y_15 => (
          (Option.bind (
            (bif (t10_12 == (9 : Int)) then (
              (bif (decide ((1 : Int) < y_15)) then (
                some true
              ) else (
                (bif (decide ((0 : Int) < t10_12)) then (
                  some (y_15 == (0 : Int))
                ) else (
                  some false
                ))
              ))
            ) else (
              (bif (decide ((0 : Int) < t10_12)) then (
                some (y_15 == (0 : Int))
              ) else (
                some false
              ))
            ))
          ) fun t28_16 => (
            (bif t28_16 then (
              some (Sum.inl ((0 : Int), (0 : Int), (21 : Int)))
            ) else (
              (bif decide ((0 : Int) ≤ (IntKind.wrap IntKind.i64 ((7 : Int) * t10_12))) then (
                (bif (decide (y_15 < (128 : Int))) then (
                  some (Sum.inl ((@ibits BinOp.or IntKind.u64 n_11 (IntKind.wrap IntKind.u64 ((IntKind.wrap IntKind.u64 (@ibits BinOp.and IntKind.u8 y_15 (127 : Int))) * ((2 : Int) ^ (min (Int.toNat (IntKind.wrap IntKind.i64 ((7 : Int) * t10_12))) 64))))), (IntKind.wrap IntKind.i64 (t10_12 + (1 : Int))), (0 : Int)))
                ) else (
                  (code_take_l0 F b n_10 (@ibits BinOp.or IntKind.u64 n_11 (IntKind.wrap IntKind.u64 ((IntKind.wrap IntKind.u64 (@ibits BinOp.and IntKind.u8 y_15 (127 : Int))) * ((2 : Int) ^ (min (Int.toNat (IntKind.wrap IntKind.i64 ((7 : Int) * t10_12))) 64))))) (IntKind.wrap IntKind.i64 (t10_12 + (1 : Int))))
                ))
              ) else none)
            ))
          ))
        ))
      ) else none)
    ) else (
      some (Sum.inr ())
    ))
def code_take (F : Nat) (b : (List Int)) : Option (Int × Int × Int) :=
  (Option.bind (
    (code_take_l0 F b F (0 : Int) (0 : Int))
  ) fun o2 => Sum.elim (fun r => some r) (fun _ => (
    some ((0 : Int), (0 : Int), (20 : Int))
  )) o2)

def crc_New (F : Nat) : Option Unit :=
  some ()

def __crc_Table__Sum (F : Nat) (b : (List Int)) : Option Int :=
  bif decide (List.length b ≤ LIM) then some (crcS b) else none


def code_Unframe (F : Nat) (b : (List Int)) : Option ((List Int) × Int × Int) :=
  (Option.bind (code_take F b) fun y_0 => (
    (bif (y_0.2.2 != (0 : Int)) then (
      some ([], (0 : Int), y_0.2.2)
    ) else (
      (bif (decide ((65536 : Int) < y_0.1)) then (
        some ([], (0 : Int), (21 : Int))
      ) else (
        (bif (decide ((@Nat.cast Int instNatCastInt (List.length b)) < (IntKind.wrap IntKind.i64 ((IntKind.wrap IntKind.i64 (y_0.2.1 + (IntKind.wrap IntKind.i64 y_0.1))) + (4 : Int))))) then (
          some ([], (0 : Int), (20 : Int))
        ) else (
          (bif decide ((0 : Int) ≤ (IntKind.wrap IntKind.i64 (y_0.2.1 + (IntKind.wrap IntKind.i64 y_0.1)))) then (
            (Option.bind ((b)[(Int.toNat (IntKind.wrap IntKind.i64 (y_0.2.1 + (IntKind.wrap IntKind.i64 y_0.1))))]?) fun y_1 => (
              (bif decide ((0 : Int) ≤ (IntKind.wrap IntKind.i64 ((IntKind.wrap IntKind.i64 (y_0.2.1 + (IntKind.wrap IntKind.i64 y_0.1))) + (1 : Int)))) then (
                (Option.bind ((b)[(Int.toNat (IntKind.wrap IntKind.i64 ((IntKind.wrap IntKind.i64 (y_0.2.1 + (IntKind.wrap IntKind.i64 y_0.1))) + (1 : Int))))]?) fun y_2 => (
                  (bif decide ((0 : Int) ≤ (IntKind.wrap IntKind.i64 ((IntKind.wrap IntKind.i64 (y_0.2.1 + (IntKind.wrap IntKind.i64 y_0.1))) + (2 : Int)))) then (
                    (Option.bind ((b)[(Int.toNat (IntKind.wrap IntKind.i64 ((IntKind.wrap IntKind.i64 (y_0.2.1 + (IntKind.wrap IntKind.i64 y_0.1))) + (2 : Int))))]?) fun y_3 => (
                      (bif decide ((0 : Int) ≤ (IntKind.wrap IntKind.i64 ((IntKind.wrap IntKind.i64 (y_0.2.1 + (IntKind.wrap IntKind.i64 y_0.1))) + (3 : Int)))) then (
                        (Option.bind ((b)[(Int.toNat (IntKind.wrap IntKind.i64 ((IntKind.wrap IntKind.i64 (y_0.2.1 + (IntKind.wrap IntKind.i64 y_0.1))) + (3 : Int))))]?) fun y_4 => (
                          (Option.bind (crc_New F) fun y_5 => (
                            (bif decide ((0 : Int) ≤ (IntKind.wrap IntKind.i64 (y_0.2.1 + (IntKind.wrap IntKind.i64 y_0.1)))) then (
                              (bif decide (0 ≤ (Int.toNat (IntKind.wrap IntKind.i64 (y_0.2.1 + (IntKind.wrap IntKind.i64 y_0.1))))) then (
                                (bif decide ((Int.toNat (IntKind.wrap IntKind.i64 (y_0.2.1 + (IntKind.wrap IntKind.i64 y_0.1)))) ≤ (List.length b)) then (
                                  (Option.bind (__crc_Table__Sum F (List.take (Int.toNat (IntKind.wrap IntKind.i64 (y_0.2.1 + (IntKind.wrap IntKind.i64 y_0.1)))) b)) fun y_6 => (
                                    (bif (y_6 != (@ibits BinOp.or IntKind.u32 (@ibits BinOp.or IntKind.u32 (@ibits BinOp.or IntKind.u32 (IntKind.wrap IntKind.u32 y_1) (IntKind.wrap IntKind.u32 ((IntKind.wrap IntKind.u32 y_2) * ((2 : Int) ^ (min (Int.toNat (8 : Int)) 32))))) (IntKind.wrap IntKind.u32 ((IntKind.wrap IntKind.u32 y_3) * ((2 : Int) ^ (min (Int.toNat (16 : Int)) 32))))) (IntKind.wrap IntKind.u32 ((IntKind.wrap IntKind.u32 y_4) * ((2 : Int) ^ (min (Int.toNat (24 : Int)) 32)))))) then (
                                      some ([], (0 : Int), (22 : Int))
                                    ) else (
                                      (bif decide ((0 : Int) ≤ y_0.2.1) then (
                                        (bif decide ((0 : Int) ≤ (IntKind.wrap IntKind.i64 (y_0.2.1 + (IntKind.wrap IntKind.i64 y_0.1)))) then (
                                          (bif decide ((Int.toNat y_0.2.1) ≤ (Int.toNat (IntKind.wrap IntKind.i64 (y_0.2.1 + (IntKind.wrap IntKind.i64 y_0.1))))) then (
                                            (bif decide ((Int.toNat (IntKind.wrap IntKind.i64 (y_0.2.1 + (IntKind.wrap IntKind.i64 y_0.1)))) ≤ (List.length b)) then (
                                              (Option.bind (slices_Clone___byte_byte_ F (List.drop (Int.toNat y_0.2.1) (List.take (Int.toNat (IntKind.wrap IntKind.i64 (y_0.2.1 + (IntKind.wrap IntKind.i64 y_0.1)))) b))) fun y_7 => (
                                                some (y_7, (IntKind.wrap IntKind.i64 ((IntKind.wrap IntKind.i64 (y_0.2.1 + (IntKind.wrap IntKind.i64 y_0.1))) + (4 : Int))), (0 : Int))
                                              ))
                                            ) else none)
                                          ) else none)
                                        ) else none)
                                      ) else none)
                                    ))
                                  ))
                                ) else none)
                              ) else none)
                            ) else none)
                          ))
                        ))
                      ) else none)
                    ))
                  ) else none)
                ))
              ) else none)
            ))
          ) else none)
        ))
      ))
    ))
  ))


def code_field (F : Nat) (kind : Int) (b : (List Int)) : Option (api_Field × Int × Int) :=
  (Option.bind (
    (bif (kind != (1 : Int)) then (
      (bif (kind != (2 : Int)) then (
        some (kind != (3 : Int))
      ) else (
        some false
      ))
    ) else (
      some false
    ))
  ) fun t22_0 => (
    (bif t22_0 then (
      some ((api_Field.mk kind (0 : Int) ([] : List UInt8)), (0 : Int), (1 : Int))
    ) else (
      (Option.bind (code_take F b) fun y_1 => (
        (bif (y_1.2.2 != (0 : Int)) then (
          some ((api_Field.mk kind (0 : Int) ([] : List UInt8)), (0 : Int), y_1.2.2)
        ) else (
          (Option.bind (
            (bif (kind == (1 : Int)) then (
              (bif ((@Int.fdiv y_1.1 ((2 : Int) ^ (min (Int.toNat (63 : Int)) 64))) != (0 : Int)) then (
                some (Sum.inl ((api_Field.mk kind (0 : Int) ([] : List UInt8)), (0 : Int), (21 : Int)))
              ) else (
                some (Sum.inr (y_1.2.1, (IntKind.wrap IntKind.i64 y_1.1), ([] : List UInt8)))
              ))
            ) else (
              (bif (kind == (2 : Int)) then (
                some (Sum.inr (y_1.2.1, (@ibits BinOp.xor IntKind.i64 (IntKind.wrap IntKind.i64 (@Int.fdiv y_1.1 ((2 : Int) ^ (min (Int.toNat (1 : Int)) 64)))) (IntKind.wrap IntKind.i64 ((0 : Int) - (IntKind.wrap IntKind.i64 (@ibits BinOp.and IntKind.u64 y_1.1 (1 : Int)))))), ([] : List UInt8)))
              ) else (
                (bif (decide ((65536 : Int) < y_1.1)) then (
                  some (Sum.inl ((api_Field.mk kind (0 : Int) ([] : List UInt8)), (0 : Int), (21 : Int)))
                ) else (
                  (bif (decide ((IntKind.wrap IntKind.i64 ((@Nat.cast Int instNatCastInt (List.length b)) - y_1.2.1)) < (IntKind.wrap IntKind.i64 y_1.1))) then (
                    some (Sum.inl ((api_Field.mk kind (0 : Int) ([] : List UInt8)), (0 : Int), (20 : Int)))
                  ) else (
                    (bif decide ((0 : Int) ≤ y_1.2.1) then (
                      (bif decide ((0 : Int) ≤ (IntKind.wrap IntKind.i64 (y_1.2.1 + (IntKind.wrap IntKind.i64 y_1.1)))) then (
                        (bif decide ((Int.toNat y_1.2.1) ≤ (Int.toNat (IntKind.wrap IntKind.i64 (y_1.2.1 + (IntKind.wrap IntKind.i64 y_1.1))))) then (
                          (bif decide ((Int.toNat (IntKind.wrap IntKind.i64 (y_1.2.1 + (IntKind.wrap IntKind.i64 y_1.1)))) ≤ (List.length b)) then (
                            (bif bytesOk (List.drop (Int.toNat y_1.2.1) (List.take (Int.toNat (IntKind.wrap IntKind.i64 (y_1.2.1 + (IntKind.wrap IntKind.i64 y_1.1)))) b)) then (
                              some (Sum.inr ((IntKind.wrap IntKind.i64 (y_1.2.1 + (IntKind.wrap IntKind.i64 y_1.1))), (0 : Int), (@toBytes (List.drop (Int.toNat y_1.2.1) (List.take (Int.toNat (IntKind.wrap IntKind.i64 (y_1.2.1 + (IntKind.wrap IntKind.i64 y_1.1)))) b)))))
                            ) else none)
                          ) else none)
                        ) else none)
                      ) else none)
                    ) else none)
                  ))
                ))
              ))
            ))
          ) fun o1 => Sum.elim (fun r => some r) (fun (size_2, c_3, c_4) => (
            some ((api_Field.mk kind c_3 c_4), size_2, (0 : Int))
          )) o1)
        ))
      ))
    ))
  ))

def code_Decode_l0 (F : Nat) (kinds : (List Int)) : Nat → (List Int) → Int → (List api_Field) → Option ((((Int × (List api_Field))) ⊕ ((List Int) × (List api_Field))))
  | 0, _, _, _ => none
  | n_14 + 1, b_15, t14_16, l_17 =>
    (bif (decide (t14_16 < (@Nat.cast Int instNatCastInt (List.length kinds)))) then (
      (bif decide ((0 : Int) ≤ t14_16) then (
        (Option.bind ((kinds)[(Int.toNat t14_16)]?) fun y_20 => (
          (Option.bind (code_field F y_20 b_15) fun y_21 => (
            (bif (y_21.2.2 != (0 : Int)) then (
              some (Sum.inl (y_21.2.2, []))
            ) else (
              (bif decide (((List.length l_17) + 1) ≤ LIM) then (
                (bif decide ((0 : Int) ≤ y_21.2.1) then (
                  (bif decide ((Int.toNat y_21.2.1) ≤ (List.length b_15)) then (
                    (bif decide ((List.length b_15) ≤ (List.length b_15)) then (
                      (code_Decode_l0 F kinds n_14 (List.drop (Int.toNat y_21.2.1) b_15) (IntKind.wrap IntKind.i64 (t14_16 + (1 : Int))) (l_17 ++ (y_21.1 :: [])))
                    ) else none)
                  ) else none)
                ) else none)
              ) else none)
            ))
          ))
        ))
      ) else none)
    ) else (
      some (Sum.inr (b_15, l_17))
    ))
def code_Decode (F : Nat) (kinds : (List Int)) (b : (List Int)) : Option (Int × (List api_Field)) :=
  (Option.bind (
    (code_Decode_l0 F kinds F b (0 : Int) [])
  ) fun o0 => Sum.elim (fun r => some r) (fun (b_8, l_9) => (
    (bif (decide ((0 : Int) < (@Nat.cast Int instNatCastInt (List.length b_8)))) then (
      some ((21 : Int), [])
    ) else (
      some ((0 : Int), l_9)
    ))
  )) o0)

def wal_read_l0 (F : Nat) (b : (List Int)) (y_1 : (Int × (List api_Field))) : Nat → Int → (List (List Int)) → Option ((Int × Bool × (List (List Int))))
  | 0, _, _ => none
  | n_6 + 1, size_7, l_8 =>
    (bif decide ((0 : Int) ≤ size_7) then (
      (bif decide ((Int.toNat size_7) ≤ (List.length b)) then (
        (bif decide ((List.length b) ≤ (List.length b)) then (
          (Option.bind (code_Unframe F (List.drop (Int.toNat size_7) b)) fun y_9 => (
            (bif (y_9.2.2 != (0 : Int)) then (
              (Option.bind ((y_1.2)[(Int.toNat (0 : Int))]?) fun y_10 => (
                some (size_7, (decide (y_10.N ≤ (@Nat.cast Int instNatCastInt (List.length (List.map (cSl (cInt IntKind.u8)) l_8))))), l_8)
              ))
            ) else (
              (bif decide (((List.length l_8) + 1) ≤ LIM) then (
                (wal_read_l0 F b y_1 n_6 (IntKind.wrap IntKind.i64 (size_7 + y_9.2.1)) (l_8 ++ (y_9.1 :: [])))
              ) else none)
            ))
          ))
        ) else none)
      ) else none)
    ) else none)
def wal_read (F : Nat) (b : (List Int)) : Option (Int × Bool × (List (List Int))) :=
  (Option.bind (code_Unframe F b) fun y_0 => (
    (bif (y_0.2.2 != (0 : Int)) then (
      some ((0 : Int), false, [])
    ) else (
      (Option.bind (code_Decode F ((1 : Int) :: []) y_0.1) fun y_1 => (
        (bif (y_1.1 != (0 : Int)) then (
          some ((0 : Int), false, [])
        ) else (
          (wal_read_l0 F b y_1 F y_0.2.1 [])
        ))
      ))
    ))
  ))


def __disk_Disk__forget_1 (F : Nat) (w : disk_write) (a1 : (List UInt8)) : Option Bool :=
  some (w.name == a1)

def slices_IndexFunc___disk_write_disk_write__l0 (F : Nat) (s : (List disk_write)) (f0 : (List UInt8)) : Nat → Int → Option (((Int) ⊕ Unit))
  | 0, _ => none
  | n_12 + 1, t8_13 =>
    (bif (decide (t8_13 < (@Nat.cast Int instNatCastInt (List.length s)))) then (
      (bif decide ((0 : Int) ≤ t8_13) then (
        (Option.bind ((s)[(Int.toNat t8_13)]?) fun y_16 => (
          (Option.bind (__disk_Disk__forget_1 F y_16 f0) fun y_17 => (
            (bif y_17 then (
              some (Sum.inl t8_13)
            ) else (
              (slices_IndexFunc___disk_write_disk_write__l0 F s f0 n_12 (IntKind.wrap IntKind.i64 (t8_13 + (1 : Int))))
            ))
          ))
        ))
      ) else none)
    ) else (
      some (Sum.inr ())
    ))
def slices_IndexFunc___disk_write_disk_write_ (F : Nat) (s : (List disk_write)) (f0 : (List UInt8)) : Option Int :=
  (Option.bind (
    (slices_IndexFunc___disk_write_disk_write__l0 F s f0 F (0 : Int))
  ) fun o0 => Sum.elim (fun r => some r) (fun _ => (
    some (@Neg.neg Int Int.instNegInt (1 : Int))
  )) o0)

def slices_DeleteFunc___disk_write_disk_write__l0 (F : Nat) (s : (List disk_write)) (del0 : (List UInt8)) (y_0 : Int) : Nat → Int → Option (Unit)
  | 0, _ => none
  | n_22 + 1, j_23 =>
    (bif (decide (j_23 < (@Nat.cast Int instNatCastInt (List.length s)))) then (
      (bif decide ((0 : Int) ≤ j_23) then (
        (Option.bind ((s)[(Int.toNat j_23)]?) fun y_27 => (
          (Option.bind (__disk_Disk__forget_1 F y_27 del0) fun y_28 => (
            (bif (!y_28) then (
              (bif decide ((0 : Int) ≤ y_0) then (
                (Option.bind ((s)[(Int.toNat y_0)]?) fun y_30 => (
                  none
                ))
              ) else none)
            ) else (
              (slices_DeleteFunc___disk_write_disk_write__l0 F s del0 y_0 n_22 (IntKind.wrap IntKind.i64 (j_23 + (1 : Int))))
            ))
          ))
        ))
      ) else none)
    ) else (
      some ()
    ))
def slices_DeleteFunc___disk_write_disk_write_ (F : Nat) (s : (List disk_write)) (del0 : (List UInt8)) : Option (List disk_write) :=
  (Option.bind (slices_IndexFunc___disk_write_disk_write_ F s del0) fun y_0 => (
    (bif (y_0 == (@Neg.neg Int Int.instNegInt (1 : Int))) then (
      some s
    ) else (
      (Option.bind (
        (slices_DeleteFunc___disk_write_disk_write__l0 F s del0 y_0 F (IntKind.wrap IntKind.i64 (y_0 + (1 : Int))))
      ) fun _ => (
        (bif decide ((0 : Int) ≤ y_0) then (
          (bif decide ((Int.toNat y_0) ≤ (List.length s)) then (
            (bif decide ((List.length s) ≤ (List.length s)) then (
              none
            ) else none)
          ) else none)
        ) else none)
      ))
    ))
  ))


def __disk_Disk__forget_1_i1 (F : Nat) (w : disk_write) (b : (List UInt8)) : Option Bool :=
  some (w.name == b)

def slices_DeleteFunc___disk_write_disk_write__i1_l0 (F : Nat) (b : (List UInt8)) : Nat → Int → Int → (List disk_write) → Option ((Int × (List disk_write)))
  | 0, _, _, _ => none
  | n_24 + 1, i_25, j_26, l_27 =>
    (bif (decide (j_26 < (@Nat.cast Int instNatCastInt (List.length l_27)))) then (
      (Option.bind (
        (bif decide ((0 : Int) ≤ j_26) then (
          (Option.bind ((l_27)[(Int.toNat j_26)]?) fun y_35 => (
            (Option.bind ((l_27)[(Int.toNat j_26)]?) fun y_36 => (
              (Option.bind (__disk_Disk__forget_1_i1 F y_36 b) fun y_37 => (
                (bif (!y_37) then (
                  (bif decide ((0 : Int) ≤ i_25) then (
                    (Option.bind ((l_27)[(Int.toNat i_25)]?) fun y_38 => (
                      (Option.bind ((l_27)[(Int.toNat i_25)]?) fun y_39 => (
                        some ((IntKind.wrap IntKind.i64 (i_25 + (1 : Int))), (List.set l_27 (Int.toNat i_25) y_36))
                      ))
                    ))
                  ) else none)
                ) else (
                  some (i_25, l_27)
                ))
              ))
            ))
          ))
        ) else none)
      ) fun (i_33, l_34) => (
        (slices_DeleteFunc___disk_write_disk_write__i1_l0 F b n_24 i_33 (IntKind.wrap IntKind.i64 (j_26 + (1 : Int))) l_34)
      ))
    ) else (
      some (i_25, l_27)
    ))
def slices_DeleteFunc___disk_write_disk_write__i1 (F : Nat) (l : (List disk_write)) (b : (List UInt8)) : Option (List disk_write) :=
  (Option.bind (slices_IndexFunc___disk_write_disk_write_ F l b) fun y_0 => (
    (bif (y_0 == (@Neg.neg Int Int.instNegInt (1 : Int))) then (
      some l
    ) else (
      (Option.bind (
        (slices_DeleteFunc___disk_write_disk_write__i1_l0 F b F y_0 (IntKind.wrap IntKind.i64 (y_0 + (1 : Int))) l)
      ) fun (i_15, l_16) => (
        (bif decide ((0 : Int) ≤ i_15) then (
          (bif decide ((Int.toNat i_15) ≤ (List.length l_16)) then (
            (bif decide ((List.length l_16) ≤ (List.length l_16)) then (
              (bif decide (((Int.toNat i_15) + ((List.length l_16) - (Int.toNat i_15))) ≤ (List.length l_16)) then (
                (bif decide ((0 : Int) ≤ i_15) then (
                  (bif decide ((Int.toNat i_15) ≤ ((min (Int.toNat i_15) (List.length l_16)) + (((List.length (List.map disk_write.c l_16)) - (Int.toNat i_15)) + ((List.length l_16) - ((Int.toNat i_15) + ((List.length (List.map disk_write.c l_16)) - (Int.toNat i_15))))))) then (
                    some (List.take (Int.toNat i_15) ((List.take (Int.toNat i_15) l_16) ++ ((List.replicate ((List.length (List.map disk_write.c l_16)) - (Int.toNat i_15)) (disk_write.mk ([] : List UInt8) (0 : Int))) ++ (List.drop ((Int.toNat i_15) + ((List.length (List.map disk_write.c l_16)) - (Int.toNat i_15))) l_16))))
                  ) else none)
                ) else none)
              ) else none)
            ) else none)
          ) else none)
        ) else none)
      ))
    ))
  ))


def __disk_Disk__forget (F : Nat) (name : (List UInt8)) (c : Int) (fs : (List ((List UInt8) × (List Int)))) (l : (List disk_write)) : Option (Int × (List disk_write)) :=
  (Option.bind (slices_DeleteFunc___disk_write_disk_write__i1 F l name) fun y_0 => (
    some (c, y_0)
  ))


def __disk_Disk__Remove (F : Nat) (name : (List UInt8)) (c : Int) (fs : (List ((List UInt8) × (List Int)))) (l : (List disk_write)) : Option (Int × Int × (List ((List UInt8) × (List Int))) × (List disk_write)) :=
  (Option.bind (__disk_Disk__there F name c fs l) fun y_0 => (
    (Option.bind (
      (bif (y_0 == (0 : Int)) then (
        (bif (Option.isSome (mget name fs)) then (
          (Option.bind (__disk_Disk__forget F name (IntKind.wrap IntKind.i64 (c - (@Nat.cast Int instNatCastInt (List.length (List.map (cInt IntKind.u8) (Option.getD (mget name fs) [])))))) (@mdel (@List UInt8) (@List Int) (fun (a_13 : (@List UInt8)) => (fun (b_13 : (@List UInt8)) => (@instDecidableEqList UInt8 instDecidableEqUInt8 a_13 b_13))) name fs) l) fun y_10 => (
            some (y_10.1, (@mdel (@List UInt8) (@List Int) (fun (a_13 : (@List UInt8)) => (fun (b_13 : (@List UInt8)) => (@instDecidableEqList UInt8 instDecidableEqUInt8 a_13 b_13))) name fs), y_10.2)
          ))
        ) else (
          (Option.bind (__disk_Disk__forget F name (IntKind.wrap IntKind.i64 (c - (0 : Int))) (@mdel (@List UInt8) (@List Int) (fun (a_13 : (@List UInt8)) => (fun (b_13 : (@List UInt8)) => (@instDecidableEqList UInt8 instDecidableEqUInt8 a_13 b_13))) name fs) l) fun y_11 => (
            some (y_11.1, (@mdel (@List UInt8) (@List Int) (fun (a_13 : (@List UInt8)) => (fun (b_13 : (@List UInt8)) => (@instDecidableEqList UInt8 instDecidableEqUInt8 a_13 b_13))) name fs), y_11.2)
          ))
        ))
      ) else (
        some (c, fs, l)
      ))
    ) fun (c_7, fs_8, l_9) => (
      some (y_0, c_7, fs_8, l_9)
    ))
  ))

def code_put_l0 (F : Nat) (n : Int) : Nat → Option (Unit)
  | 0 => none
  | n_0 + 1 =>
    (bif (decide ((128 : Int) ≤ n)) then (
      none
    ) else (
      some ()
    ))
def code_put (F : Nat) (b : (List Int)) (n : Int) : Option (List Int) :=
  (Option.bind (
    (code_put_l0 F n F)
  ) fun _ => (
    none
  ))

def code_put_i1_l0 (F : Nat) : Nat → Int → (List Int) → Option ((Int × (List Int)))
  | 0, _, _ => none
  | n_2 + 1, n_3, l_4 =>
    (bif (decide ((128 : Int) ≤ n_3)) then (
      (bif decide (((List.length l_4) + 1) ≤ LIM) then (
        (code_put_i1_l0 F n_2 (@Int.fdiv n_3 ((2 : Int) ^ (min (Int.toNat (7 : Int)) 64))) (l_4 ++ ((@ibits BinOp.or IntKind.u8 (IntKind.wrap IntKind.u8 n_3) (128 : Int)) :: [])))
      ) else none)
    ) else (
      some (n_3, l_4)
    ))
def code_put_i1 (F : Nat) (n : Int) (l : (List Int)) : Option (List Int) :=
  (Option.bind (
    (code_put_i1_l0 F F n l)
  ) fun (n_0, l_1) => (
    (bif decide (((List.length l_1) + 1) ≤ LIM) then (
      some (l_1 ++ ((IntKind.wrap IntKind.u8 n_0) :: []))
    ) else none)
  ))

def code_Encode_l0 (F : Nat) (list : (List api_Field)) : Nat → Int → (List Int) → Option ((((Int × (List Int))) ⊕ (List Int)))
  | 0, _, _ => none
  | n_22 + 1, t9_23, l_24 =>
    (bif (decide (t9_23 < (@Nat.cast Int instNatCastInt (List.length list)))) then (
      (Option.bind (
        (bif decide ((0 : Int) ≤ t9_23) then (
          (Option.bind ((list)[(Int.toNat t9_23)]?) fun y_32 => (
            (Option.bind (
              (bif (y_32.Kind == (1 : Int)) then (
                some (decide ((0 : Int) ≤ y_32.N))
              ) else (
                some false
              ))
            ) fun t13_33 => (
              (bif t13_33 then (
                (Option.bind (code_put_i1 F (IntKind.wrap IntKind.u64 y_32.N) l_24) fun y_34 => (
                  some (Sum.inr y_34)
                ))
              ) else (
                (bif (y_32.Kind == (2 : Int)) then (
                  (Option.bind (code_put_i1 F (@ibits BinOp.xor IntKind.u64 (IntKind.wrap IntKind.u64 ((IntKind.wrap IntKind.u64 y_32.N) * ((2 : Int) ^ (min (Int.toNat (1 : Int)) 64)))) (IntKind.wrap IntKind.u64 (@Int.fdiv y_32.N ((2 : Int) ^ (min (Int.toNat (63 : Int)) 64))))) l_24) fun y_35 => (
                    some (Sum.inr y_35)
                  ))
                ) else (
                  (Option.bind (
                    (bif (y_32.Kind == (3 : Int)) then (
                      some (decide ((@Nat.cast Int instNatCastInt (List.length y_32.S)) ≤ (65536 : Int)))
                    ) else (
                      some false
                    ))
                  ) fun t42_36 => (
                    (bif t42_36 then (
                      (Option.bind (code_put_i1 F (IntKind.wrap IntKind.u64 (@Nat.cast Int instNatCastInt (List.length y_32.S))) l_24) fun y_37 => (
                        (bif decide (((List.length y_37) + (List.length y_32.S)) ≤ LIM) then (
                          some (Sum.inr (y_37 ++ (List.map (fun (b_13 : UInt8) => (((UInt8.toNat b_13) : Nat) : Int)) y_32.S)))
                        ) else none)
                      ))
                    ) else (
                      some (Sum.inl ((1 : Int), []))
                    ))
                  ))
                ))
              ))
            ))
          ))
        ) else none)
      ) fun o12 => Sum.elim (fun r => some (Sum.inl r)) (fun l_31 => (
        (code_Encode_l0 F list n_22 (IntKind.wrap IntKind.i64 (t9_23 + (1 : Int))) l_31)
      )) o12)
    ) else (
      some (Sum.inr l_24)
    ))
def code_Encode (F : Nat) (list : (List api_Field)) : Option (Int × (List Int)) :=
  (Option.bind (
    (code_Encode_l0 F list F (0 : Int) [])
  ) fun o6 => Sum.elim (fun r => some r) (fun l_14 => (
    some ((0 : Int), l_14)
  )) o6)

def __crc_Table__Sum_i1 (F : Nat) (l : (List Int)) : Option Int :=
  bif decide (List.length l ≤ LIM) then some (crcS l) else none


def code_Frame (F : Nat) (b : (List Int)) : Option (Int × (List Int)) :=
  (bif (decide ((65536 : Int) < (@Nat.cast Int instNatCastInt (List.length b)))) then (
    some ((1 : Int), [])
  ) else (
    (Option.bind (code_put_i1 F (IntKind.wrap IntKind.u64 (@Nat.cast Int instNatCastInt (List.length (List.map (cInt IntKind.u8) b)))) []) fun y_0 => (
      (bif decide (((List.length y_0) + (List.length b)) ≤ LIM) then (
        (Option.bind (crc_New F) fun y_1 => (
          (Option.bind (__crc_Table__Sum_i1 F (y_0 ++ b)) fun y_2 => (
            (bif decide (((List.length (y_0 ++ b)) + 4) ≤ LIM) then (
              some ((0 : Int), ((y_0 ++ b) ++ ((IntKind.wrap IntKind.u8 y_2) :: ((IntKind.wrap IntKind.u8 (@Int.fdiv y_2 ((2 : Int) ^ (min (Int.toNat (8 : Int)) 32)))) :: ((IntKind.wrap IntKind.u8 (@Int.fdiv y_2 ((2 : Int) ^ (min (Int.toNat (16 : Int)) 32)))) :: ((IntKind.wrap IntKind.u8 (@Int.fdiv y_2 ((2 : Int) ^ (min (Int.toNat (24 : Int)) 32)))) :: []))))))
            ) else none)
          ))
        ))
      ) else none)
    ))
  ))


def wal_framed (F : Nat) (rec : (List Int)) : Option ((List Int) × Int) :=
  (Option.bind (code_Frame F rec) fun y_0 => (
    some (y_0.2, y_0.1)
  ))

def wal_frames_l0 (F : Nat) (recs : (List (List Int))) (y_0 : (Int × (List Int))) : Nat → Int → (List (List Int)) → Option ((((Int × (List (List Int)))) ⊕ (List (List Int))))
  | 0, _, _ => none
  | n_16 + 1, t24_17, l_18 =>
    (bif (decide (t24_17 < (@Nat.cast Int instNatCastInt (1 + (List.length recs))))) then (
      (bif decide ((0 : Int) ≤ t24_17) then (
        (Option.bind ((((y_0.2 :: []) ++ recs))[(Int.toNat t24_17)]?) fun y_22 => (
          (Option.bind ((((y_0.2 :: []) ++ recs))[(Int.toNat t24_17)]?) fun y_23 => (
            (Option.bind (wal_framed F y_23) fun y_24 => (
              (bif (y_24.2 != (0 : Int)) then (
                some (Sum.inl (y_24.2, []))
              ) else (
                (bif decide (((List.length l_18) + 1) ≤ LIM) then (
                  (wal_frames_l0 F recs y_0 n_16 (IntKind.wrap IntKind.i64 (t24_17 + (1 : Int))) (l_18 ++ (y_24.1 :: [])))
                ) else none)
              ))
            ))
          ))
        ))
      ) else none)
    ) else (
      some (Sum.inr l_18)
    ))
def wal_frames (F : Nat) (recs : (List (List Int))) : Option (Int × (List (List Int))) :=
  (Option.bind (code_Encode F ((api_Field.mk (1 : Int) (@Nat.cast Int instNatCastInt (List.length (List.map (cSl (cInt IntKind.u8)) recs))) ([] : List UInt8)) :: [])) fun y_0 => (
    (bif decide ((1 + (List.length recs)) ≤ LIM) then (
      (Option.bind (
        (wal_frames_l0 F recs y_0 F (0 : Int) [])
      ) fun o0 => Sum.elim (fun r => some r) (fun l_9 => (
        some ((0 : Int), l_9)
      )) o0)
    ) else none)
  ))

def disk_named_l0 (F : Nat) (name : (List UInt8)) : Nat → Int → Option (((Bool) ⊕ Unit))
  | 0, _ => none
  | n_18 + 1, t8_19 =>
    (bif (decide (t8_19 < (@Nat.cast Int instNatCastInt (List.length name)))) then (
      (bif decide ((0 : Int) ≤ t8_19) then (
        (Option.bind (((List.map (fun (b_13 : UInt8) => (((UInt8.toNat b_13) : Nat) : Int)) name))[(Int.toNat t8_19)]?) fun y_23 => (
          (Option.bind (((List.map (fun (b_13 : UInt8) => (((UInt8.toNat b_13) : Nat) : Int)) name))[(Int.toNat t8_19)]?) fun y_24 => (
            (Option.bind (
              (bif (decide (y_24 < (97 : Int))) then (
                (bif (decide (y_24 < (48 : Int))) then (
                  (bif (y_24 != (45 : Int)) then (
                    some (y_24 != (46 : Int))
                  ) else (
                    some false
                  ))
                ) else (
                  (bif (decide ((57 : Int) < y_24)) then (
                    (bif (y_24 != (45 : Int)) then (
                      some (y_24 != (46 : Int))
                    ) else (
                      some false
                    ))
                  ) else (
                    some false
                  ))
                ))
              ) else (
                (bif (decide ((122 : Int) < y_24)) then (
                  (bif (decide (y_24 < (48 : Int))) then (
                    (bif (y_24 != (45 : Int)) then (
                      some (y_24 != (46 : Int))
                    ) else (
                      some false
                    ))
                  ) else (
                    (bif (decide ((57 : Int) < y_24)) then (
                      (bif (y_24 != (45 : Int)) then (
                        some (y_24 != (46 : Int))
                      ) else (
                        some false
                      ))
                    ) else (
                      some false
                    ))
                  ))
                ) else (
                  some false
                ))
              ))
            ) fun t33_25 => (
              (bif t33_25 then (
                some (Sum.inl false)
              ) else (
                (disk_named_l0 F name n_18 (IntKind.wrap IntKind.i64 (t8_19 + (1 : Int))))
              ))
            ))
          ))
        ))
      ) else none)
    ) else (
      some (Sum.inr ())
    ))
def disk_named (F : Nat) (name : (List UInt8)) : Option Bool :=
  (bif decide ((List.length name) ≤ LIM) then (
    (Option.bind (
      (disk_named_l0 F name F (0 : Int))
    ) fun o4 => Sum.elim (fun r => some r) (fun _ => (
      (bif (decide ((1 : Int) ≤ (@Nat.cast Int instNatCastInt (List.length name)))) then (
        some (decide ((@Nat.cast Int instNatCastInt (List.length name)) ≤ (16 : Int)))
      ) else (
        some false
      ))
    )) o4)
  ) else none)


def __disk_Disk__Append (F : Nat) (name : (List UInt8)) (b : (List Int)) (c : Int) (fs : (List ((List UInt8) × (List Int)))) (l : (List disk_write)) : Option (Int × Int × (List ((List UInt8) × (List Int))) × (List disk_write)) :=
  (Option.bind (disk_named F name) fun y_1 => (
    (bif (!y_1) then (
      some ((1 : Int), c, fs, l)
    ) else (
      (bif (Option.isSome (mget name fs)) then (
        (bif (decide ((1048576 : Int) < (IntKind.wrap IntKind.i64 (c + (@Nat.cast Int instNatCastInt (List.length b)))))) then (
          some ((3 : Int), c, fs, l)
        ) else (
          (bif decide (((List.length (Option.getD (mget name fs) [])) + (List.length b)) ≤ LIM) then (
            (bif decide (List.length fs + 1 ≤ LIM) then (
              (bif decide (((List.length l) + 1) ≤ LIM) then (
                some ((0 : Int), (IntKind.wrap IntKind.i64 (c + (@Nat.cast Int instNatCastInt (List.length (List.map (cInt IntKind.u8) b))))), (mput name ((Option.getD (mget name fs) []) ++ b) fs), (l ++ ((disk_write.mk name (@Nat.cast Int instNatCastInt (List.length (List.map (cInt IntKind.u8) b)))) :: [])))
              ) else none)
            ) else none)
          ) else none)
        ))
      ) else (
        (Option.bind (
          (bif (decide ((64 : Int) ≤ (@Nat.cast Int instNatCastInt (List.length (@encF (@List UInt8) Int (fun (k_13 : (@List UInt8)) => (AV.str k_13)) (cInt IntKind.u8) fs))))) then (
            some true
          ) else (
            some (decide ((1048576 : Int) < (IntKind.wrap IntKind.i64 (c + (@Nat.cast Int instNatCastInt (List.length (List.map (cInt IntKind.u8) b)))))))
          ))
        ) fun t44_2 => (
          (bif t44_2 then (
            some ((3 : Int), c, fs, l)
          ) else (
            (bif decide ((List.length b) ≤ LIM) then (
              (bif decide (List.length fs + 1 ≤ LIM) then (
                (bif decide (((List.length l) + 1) ≤ LIM) then (
                  some ((0 : Int), (IntKind.wrap IntKind.i64 (c + (@Nat.cast Int instNatCastInt (List.length (List.map (cInt IntKind.u8) b))))), (mput name b fs), (l ++ ((disk_write.mk name (@Nat.cast Int instNatCastInt (List.length (List.map (cInt IntKind.u8) b)))) :: [])))
                ) else none)
              ) else none)
            ) else none)
          ))
        ))
      ))
    ))
  ))


def __disk_Disk__Sync (F : Nat) (name : (List UInt8)) (c : Int) (fs : (List ((List UInt8) × (List Int)))) (l : (List disk_write)) : Option (Int × Int × (List disk_write)) :=
  (Option.bind (__disk_Disk__there F name c fs l) fun y_0 => (
    (Option.bind (
      (bif (y_0 == (0 : Int)) then (
        (Option.bind (__disk_Disk__forget F name c fs l) fun y_6 => (
          some (y_6.1, y_6.2)
        ))
      ) else (
        some (c, l)
      ))
    ) fun (c_4, l_5) => (
      some (y_0, c_4, l_5)
    ))
  ))

def __wal_Wal__Reset_l0 (F : Nat) (c : (List UInt8)) (c_2 : Int) (c_3 : Int) (y_0 : (Int × (List (List Int)))) (y_1 : (List UInt8)) : Nat → Int → Int → (List ((List UInt8) × (List Int))) → (List disk_write) → Option ((((Int × (List UInt8) × Int × Int × Int × (List ((List UInt8) × (List Int))) × (List disk_write))) ⊕ (Int × (List ((List UInt8) × (List Int))) × (List disk_write))))
  | 0, _, _, _, _ => none
  | n_18 + 1, t46_19, c_20, fs_21, l_22 =>
    (bif (decide (t46_19 < (@Nat.cast Int instNatCastInt (List.length y_0.2)))) then (
      (bif decide ((0 : Int) ≤ t46_19) then (
        (Option.bind ((y_0.2)[(Int.toNat t46_19)]?) fun y_25 => (
          (Option.bind (__disk_Disk__Append F (([108, 111, 103, 45] : List UInt8) ++ y_1) y_25 c_20 fs_21 l_22) fun y_26 => (
            (bif (y_26.1 != (0 : Int)) then (
              some (Sum.inl ((3 : Int), c, (IntKind.wrap IntKind.i64 (c_2 + (1 : Int))), c_3, y_26.2.1, y_26.2.2.1, y_26.2.2.2))
            ) else (
              (__wal_Wal__Reset_l0 F c c_2 c_3 y_0 y_1 n_18 (IntKind.wrap IntKind.i64 (t46_19 + (1 : Int))) y_26.2.1 y_26.2.2.1 y_26.2.2.2)
            ))
          ))
        ))
      ) else none)
    ) else (
      some (Sum.inr (c_20, fs_21, l_22))
    ))
def __wal_Wal__Reset (F : Nat) (recs : (List (List Int))) (c : (List UInt8)) (c_2 : Int) (c_3 : Int) (c_4 : Int) (fs : (List ((List UInt8) × (List Int)))) (l : (List disk_write)) : Option (Int × (List UInt8) × Int × Int × Int × (List ((List UInt8) × (List Int))) × (List disk_write)) :=
  (Option.bind (wal_frames F recs) fun y_0 => (
    (bif (y_0.1 != (0 : Int)) then (
      some (y_0.1, c, c_2, c_3, c_4, fs, l)
    ) else (
      (Option.bind (strconv_Itoa F (IntKind.wrap IntKind.i64 (c_2 + (1 : Int)))) fun y_1 => (
        (bif decide (((List.length ([108, 111, 103, 45] : List UInt8)) + (List.length y_1)) ≤ 9223372036854775807) then (
          (Option.bind (wal_number F (([108, 111, 103, 45] : List UInt8) ++ y_1)) fun y_2 => (
            (bif (y_2 == (0 : Int)) then (
              some ((3 : Int), c, (IntKind.wrap IntKind.i64 (c_2 + (1 : Int))), c_3, c_4, fs, l)
            ) else (
              (Option.bind (
                (__wal_Wal__Reset_l0 F c c_2 c_3 y_0 y_1 F (0 : Int) c_4 fs l)
              ) fun o0 => Sum.elim (fun r => some r) (fun (c_11, fs_12, l_13) => (
                (Option.bind (__disk_Disk__Sync F (([108, 111, 103, 45] : List UInt8) ++ y_1) c_11 fs_12 l_13) fun y_27 => (
                  (Option.bind (
                    (bif (!(c == ([] : List UInt8))) then (
                      (Option.bind (__disk_Disk__Remove F c y_27.2.1 fs_12 y_27.2.2) fun y_32 => (
                        some (y_32.2.1, y_32.2.2.1, y_32.2.2.2)
                      ))
                    ) else (
                      some (y_27.2.1, fs_12, y_27.2.2)
                    ))
                  ) fun (c_29, fs_30, l_31) => (
                    some ((0 : Int), (([108, 111, 103, 45] : List UInt8) ++ y_1), (IntKind.wrap IntKind.i64 (c_2 + (1 : Int))), (@Nat.cast Int instNatCastInt (List.length (List.map (cSl (cInt IntKind.u8)) recs))), c_29, fs_30, l_31)
                  ))
                ))
              )) o0)
            ))
          ))
        ) else none)
      ))
    ))
  ))

def wal_Open_l0 (F : Nat) (y_0 : (List (List UInt8))) : Nat → Int → (List Int) → Option ((List Int))
  | 0, _, _ => none
  | n_11 + 1, t26_12, l_13 =>
    (bif (decide (t26_12 < (@Nat.cast Int instNatCastInt (List.length y_0)))) then (
      (Option.bind (
        (bif decide ((0 : Int) ≤ t26_12) then (
          (Option.bind ((y_0)[(Int.toNat t26_12)]?) fun y_17 => (
            (Option.bind (wal_number F y_17) fun y_18 => (
              (bif (decide ((0 : Int) < y_18)) then (
                (bif decide (((List.length l_13) + 1) ≤ LIM) then (
                  some (l_13 ++ (y_18 :: []))
                ) else none)
              ) else (
                some l_13
              ))
            ))
          ))
        ) else none)
      ) fun l_16 => (
        (wal_Open_l0 F y_0 n_11 (IntKind.wrap IntKind.i64 (t26_12 + (1 : Int))) l_16)
      ))
    ) else (
      some l_13
    ))
def wal_Open_r1 (F : Nat) : List Int → Int → (List ((List UInt8) × (List Int))) → (List (List Int)) → Bool → (List disk_write) → (List UInt8) → Int → Int → Option ((Int × (List ((List UInt8) × (List Int))) × (List (List Int)) × Bool × (List disk_write) × (List UInt8) × Int × Int))
  | [], c_37, fs_38, c_39, c_40, l_41, c_42, c_43, c_44 => some (c_37, fs_38, c_39, c_40, l_41, c_42, c_43, c_44)
  | z_35 :: rr_36, c_37, fs_38, c_39, c_40, l_41, c_42, c_43, c_44 =>
    (Option.bind (strconv_Itoa F z_35) fun y_45 => (
      (bif decide (((List.length ([108, 111, 103, 45] : List UInt8)) + (List.length y_45)) ≤ 9223372036854775807) then (
        (Option.bind (__disk_Disk__Read F (([108, 111, 103, 45] : List UInt8) ++ y_45) c_37 fs_38 l_41) fun y_46 => (
          (Sum.elim (fun y_46 => (
            (Option.bind (wal_read F y_46.2) fun y_47 => (
              (Option.bind (
                (bif (!(c_42 == ([] : List UInt8))) then (
                  some true
                ) else (
                  some (!y_47.2.1)
                ))
              ) fun t80_48 => (
                (bif t80_48 then (
                  (Option.bind (__disk_Disk__Remove F (([108, 111, 103, 45] : List UInt8) ++ y_45) c_37 fs_38 l_41) fun y_49 => (
                    (wal_Open_r1 F rr_36 y_49.2.1 y_49.2.2.1 c_39 c_40 y_49.2.2.2 c_42 (if (z_35 > c_43) then z_35 else c_43) c_44)
                  ))
                ) else (
                  (wal_Open_r1 F rr_36 c_37 fs_38 y_47.2.2 (y_47.1 == (@Nat.cast Int instNatCastInt (List.length (List.map (cInt IntKind.u8) y_46.2)))) l_41 (([108, 111, 103, 45] : List UInt8) ++ y_45) (if (z_35 > c_43) then z_35 else c_43) (@Nat.cast Int instNatCastInt (List.length (List.map (cSl (cInt IntKind.u8)) y_47.2.2))))
                ))
              ))
            ))
          )) (fun y_46 => (
            (Option.bind (wal_read F y_46.1) fun y_50 => (
              (Option.bind (
                (bif (!(c_42 == ([] : List UInt8))) then (
                  some true
                ) else (
                  some (!y_50.2.1)
                ))
              ) fun t80_51 => (
                (bif t80_51 then (
                  (Option.bind (__disk_Disk__Remove F (([108, 111, 103, 45] : List UInt8) ++ y_45) c_37 fs_38 l_41) fun y_52 => (
                    (wal_Open_r1 F rr_36 y_52.2.1 y_52.2.2.1 c_39 c_40 y_52.2.2.2 c_42 (if (z_35 > c_43) then z_35 else c_43) c_44)
                  ))
                ) else (
                  (wal_Open_r1 F rr_36 c_37 fs_38 y_50.2.2 (y_50.1 == (@Nat.cast Int instNatCastInt (List.length (List.map (cInt IntKind.u8) y_46.1)))) l_41 (([108, 111, 103, 45] : List UInt8) ++ y_45) (if (z_35 > c_43) then z_35 else c_43) (@Nat.cast Int instNatCastInt (List.length (List.map (cSl (cInt IntKind.u8)) y_50.2.2))))
                ))
              ))
            ))
          )) y_46)
        ))
      ) else none)
    ))

def wal_Open (F : Nat) (c : Int) (fs : (List ((List UInt8) × (List Int)))) (l : (List disk_write)) : Option ((Int × Int × (List ((List UInt8) × (List Int))) × (List (List Int)) × (List disk_write)) ⊕ ((List (List Int)) × Int × Int × (List ((List UInt8) × (List Int))) × (List UInt8) × Int × Int × (List disk_write))) :=
  (Option.bind (__disk_Disk__Names F c fs l) fun y_0 => (
    (Option.bind (
      (wal_Open_l0 F y_0 F (0 : Int) [])
    ) fun l_7 => (
      (Option.bind (slices_Sort___int_int__i1 F l_7) fun y_19 => (
        (Option.bind (slices_Backward___int_int_ F y_19) fun y_20 => (
          (Option.bind (wal_Open_r1 F (List.reverse y_20) c fs [] false l ([] : List UInt8) (0 : Int) (0 : Int)) fun (c_53, fs_54, c_55, c_56, l_57, c_58, c_59, c_60) => (
            (Option.bind (
              (bif (!c_56) then (
                (Option.bind (__wal_Wal__Reset F c_55 c_58 c_59 c_60 c_53 fs_54 l_57) fun y_68 => (
                  (bif (y_68.1 != (0 : Int)) then (
                    some (Sum.inl (Sum.inl (y_68.1, y_68.2.2.2.2.1, y_68.2.2.2.2.2.1, [], y_68.2.2.2.2.2.2)))
                  ) else (
                    some (Sum.inr (y_68.2.2.2.2.1, y_68.2.2.2.2.2.1, y_68.2.2.2.2.2.2, y_68.2.1, y_68.2.2.1, y_68.2.2.2.1))
                  ))
                ))
              ) else (
                some (Sum.inr (c_53, fs_54, l_57, c_58, c_59, c_60))
              ))
            ) fun o8 => Sum.elim (fun r => some r) (fun (c_62, fs_63, l_64, c_65, c_66, c_67) => (
              some (Sum.inr (c_55, (0 : Int), c_62, fs_63, c_65, c_66, c_67, l_64))
            )) o8)
          ))
        ))
      ))
    ))
  ))


def __wal_Wal__File (F : Nat) (c : (List UInt8)) (c_1 : Int) (c_2 : Int) (c_3 : Int) (fs : (List ((List UInt8) × (List Int)))) (l : (List disk_write)) : Option (List UInt8) :=
  some c


def __wal_Wal__Append (F : Nat) (c : (List UInt8)) (c_1 : Int) (c_2 : Int) (l : (List Int)) (c_4 : Int) (fs : (List ((List UInt8) × (List Int)))) (l_6 : (List disk_write)) : Option (Int × (List UInt8) × Int × Int × (List Int) × Int × (List ((List UInt8) × (List Int))) × (List disk_write)) :=
  (Option.bind (wal_framed F l) fun y_0 => (
    (bif (y_0.2 != (0 : Int)) then (
      some (y_0.2, c, c_1, c_2, l, c_4, fs, l_6)
    ) else (
      (Option.bind (__disk_Disk__Append F c y_0.1 c_4 fs l_6) fun y_1 => (
        (bif (y_1.1 != (0 : Int)) then (
          some ((3 : Int), c, c_1, c_2, l, y_1.2.1, y_1.2.2.1, y_1.2.2.2)
        ) else (
          some ((0 : Int), c, c_1, (IntKind.wrap IntKind.i64 (c_2 + (1 : Int))), l, y_1.2.1, y_1.2.2.1, y_1.2.2.2)
        ))
      ))
    ))
  ))


def __wal_Wal__Sync (F : Nat) (c : (List UInt8)) (c_1 : Int) (c_2 : Int) (c_3 : Int) (fs : (List ((List UInt8) × (List Int)))) (l : (List disk_write)) : Option (Int × Int × (List disk_write)) :=
  (Option.bind (__disk_Disk__Sync F c c_3 fs l) fun y_0 => (
    some (y_0.1, y_0.2.1, y_0.2.2)
  ))

def __disk_Disk__Crash_l0 (F : Nat) (keep : Int) (torn : Int) (l : (List disk_write)) : Nat → Int → Int → (List ((List UInt8) × (List Int))) → Option ((Int × (List ((List UInt8) × (List Int)))))
  | 0, _, _, _ => none
  | n_20 + 1, i_21, c_22, fs_23 =>
    (bif (decide ((if ((@Nat.cast Int instNatCastInt (List.length l)) < (if ((0 : Int) > keep) then (0 : Int) else keep)) then (@Nat.cast Int instNatCastInt (List.length l)) else (if ((0 : Int) > keep) then (0 : Int) else keep)) ≤ i_21)) then (
      (bif decide ((0 : Int) ≤ i_21) then (
        (Option.bind ((l)[(Int.toNat i_21)]?) fun y_27 => (
          (Option.bind ((l)[(Int.toNat i_21)]?) fun y_28 => (
            (Option.bind (
              (bif (i_21 == (if ((@Nat.cast Int instNatCastInt (List.length l)) < (if ((0 : Int) > keep) then (0 : Int) else keep)) then (@Nat.cast Int instNatCastInt (List.length l)) else (if ((0 : Int) > keep) then (0 : Int) else keep))) then (
                some (IntKind.wrap IntKind.i64 (y_28.size - (if (y_28.size < (if ((0 : Int) > torn) then (0 : Int) else torn)) then y_28.size else (if ((0 : Int) > torn) then (0 : Int) else torn))))
              ) else (
                some y_28.size
              ))
            ) fun lost_29 => (
              (bif (Option.isSome (mget y_28.name fs_23)) then (
                (bif decide ((0 : Int) ≤ (IntKind.wrap IntKind.i64 ((@Nat.cast Int instNatCastInt (List.length (Option.getD (mget y_28.name fs_23) []))) - lost_29))) then (
                  (bif decide ((Int.toNat (IntKind.wrap IntKind.i64 ((@Nat.cast Int instNatCastInt (List.length (Option.getD (mget y_28.name fs_23) []))) - lost_29))) ≤ (List.length (Option.getD (mget y_28.name fs_23) []))) then (
                    (bif decide (List.length fs_23 + 1 ≤ LIM) then (
                      (__disk_Disk__Crash_l0 F keep torn l n_20 (IntKind.wrap IntKind.i64 (i_21 - (1 : Int))) (IntKind.wrap IntKind.i64 (c_22 - lost_29)) (mput y_28.name (List.take (Int.toNat (IntKind.wrap IntKind.i64 ((@Nat.cast Int instNatCastInt (List.length (List.map (cInt IntKind.u8) (Option.getD (mget y_28.name fs_23) [])))) - lost_29))) (Option.getD (mget y_28.name fs_23) [])) fs_23))
                    ) else none)
                  ) else none)
                ) else none)
              ) else (
                none
              ))
            ))
          ))
        ))
      ) else none)
    ) else (
      some (c_22, fs_23)
    ))
def __disk_Disk__Crash (F : Nat) (keep : Int) (torn : Int) (c : Int) (fs : (List ((List UInt8) × (List Int)))) (l : (List disk_write)) : Option (Int × (List ((List UInt8) × (List Int)))) :=
  (Option.bind (
    (__disk_Disk__Crash_l0 F keep torn l F (IntKind.wrap IntKind.i64 ((@Nat.cast Int instNatCastInt (List.length (List.map disk_write.c l))) - (1 : Int))) c fs)
  ) fun (c_12, fs_13) => (
    some (c_12, fs_13)
  ))

def matinsref10_Lists_l0 (F : Nat) (a : (List (List Int))) (b : (List (List Int))) : Nat → Int → Option (((Bool) ⊕ Unit))
  | 0, _ => none
  | n_12 + 1, i_13 =>
    (bif (decide (i_13 < (@Nat.cast Int instNatCastInt (List.length a)))) then (
      (bif decide ((0 : Int) ≤ i_13) then (
        (Option.bind ((a)[(Int.toNat i_13)]?) fun y_16 => (
          (bif bytesOk y_16 then (
            (bif decide ((0 : Int) ≤ i_13) then (
              (Option.bind ((b)[(Int.toNat i_13)]?) fun y_17 => (
                (bif bytesOk y_17 then (
                  (bif (!((@toBytes y_16) == (@toBytes y_17))) then (
                    some (Sum.inl false)
                  ) else (
                    (matinsref10_Lists_l0 F a b n_12 (IntKind.wrap IntKind.i64 (i_13 + (1 : Int))))
                  ))
                ) else none)
              ))
            ) else none)
          ) else none)
        ))
      ) else none)
    ) else (
      some (Sum.inr ())
    ))
def matinsref10_Lists (F : Nat) (a : (List (List Int))) (b : (List (List Int))) : Option Bool :=
  (bif ((@Nat.cast Int instNatCastInt (List.length a)) != (@Nat.cast Int instNatCastInt (List.length b))) then (
    some false
  ) else (
    (Option.bind (
      (matinsref10_Lists_l0 F a b F (0 : Int))
    ) fun o0 => Sum.elim (fun r => some r) (fun _ => (
      some true
    )) o0)
  ))


def __wal_Wal__Count (F : Nat) (c : (List UInt8)) (c_1 : Int) (c_2 : Int) (c_3 : Int) (fs : (List ((List UInt8) × (List Int)))) (l : (List disk_write)) : Option Int :=
  some c_2


def matinslaw10_awake (F : Nat) : Option Bool :=
  (Option.bind (disk_New F) fun y_0 => (
    (Option.bind (wal_Open F y_0.1 y_0.2 []) fun y_1 => (
      (Sum.elim (fun y_1 => (
        some false
      )) (fun y_1 => (
        (Option.bind (
          (bif ((@Nat.cast Int instNatCastInt (List.length y_1.1)) != (0 : Int)) then (
            some true
          ) else (
            (bif (y_1.2.1 != (0 : Int)) then (
              some true
            ) else (
              (Option.bind (__wal_Wal__File F y_1.2.2.2.2.1 y_1.2.2.2.2.2.1 y_1.2.2.2.2.2.2.1 y_1.2.2.1 y_1.2.2.2.1 y_1.2.2.2.2.2.2.2) fun y_4 => (
                some (!(y_4 == ([108, 111, 103, 45, 49] : List UInt8)))
              ))
            ))
          ))
        ) fun t30_3 => (
          (bif t30_3 then (
            some false
          ) else (
            (Option.bind (__wal_Wal__Append F y_1.2.2.2.2.1 y_1.2.2.2.2.2.1 y_1.2.2.2.2.2.2.1 ((97 : Int) :: []) y_1.2.2.1 y_1.2.2.2.1 y_1.2.2.2.2.2.2.2) fun y_5 => (
              (Option.bind (__wal_Wal__Sync F y_5.2.1 y_5.2.2.1 y_5.2.2.2.1 y_5.2.2.2.2.2.1 y_5.2.2.2.2.2.2.1 y_5.2.2.2.2.2.2.2) fun y_6 => (
                (Option.bind (__wal_Wal__Append F y_5.2.1 y_5.2.2.1 y_5.2.2.2.1 ((98 : Int) :: ((99 : Int) :: [])) y_6.2.1 y_5.2.2.2.2.2.2.1 y_6.2.2) fun y_7 => (
                  (Option.bind (__disk_Disk__Crash F (0 : Int) (3 : Int) y_7.2.2.2.2.2.1 y_7.2.2.2.2.2.2.1 y_7.2.2.2.2.2.2.2) fun y_8 => (
                    (Option.bind (wal_Open F y_8.1 y_8.2 []) fun y_9 => (
                      (Sum.elim (fun y_9 => (
                        (bif (y_9.1 == (0 : Int)) then (
                          some false
                        ) else (
                          some false
                        ))
                      )) (fun y_9 => (
                        (bif (y_9.2.1 == (0 : Int)) then (
                          (Option.bind (matinsref10_Lists F y_9.1 (((97 : Int) :: []) :: [])) fun y_10 => (
                            (bif y_10 then (
                              (Option.bind (__wal_Wal__File F y_9.2.2.2.2.1 y_9.2.2.2.2.2.1 y_9.2.2.2.2.2.2.1 y_9.2.2.1 y_9.2.2.2.1 y_9.2.2.2.2.2.2.2) fun y_11 => (
                                (bif (y_11 == ([108, 111, 103, 45, 50] : List UInt8)) then (
                                  (Option.bind (__wal_Wal__Count F y_9.2.2.2.2.1 y_9.2.2.2.2.2.1 y_9.2.2.2.2.2.2.1 y_9.2.2.1 y_9.2.2.2.1 y_9.2.2.2.2.2.2.2) fun y_12 => (
                                    some (y_12 == (1 : Int))
                                  ))
                                ) else (
                                  some false
                                ))
                              ))
                            ) else (
                              some false
                            ))
                          ))
                        ) else (
                          some false
                        ))
                      )) y_9)
                    ))
                  ))
                ))
              ))
            ))
          ))
        ))
      )) y_1)
    ))
  ))


def __wal_Wal__Append_i1 (F : Nat) (rec : (List Int)) (c : (List UInt8)) (c_2 : Int) (c_3 : Int) (c_4 : Int) (fs : (List ((List UInt8) × (List Int)))) (l : (List disk_write)) : Option (Int × (List UInt8) × Int × Int × Int × (List ((List UInt8) × (List Int))) × (List disk_write)) :=
  (Option.bind (wal_framed F rec) fun y_0 => (
    (bif (y_0.2 != (0 : Int)) then (
      some (y_0.2, c, c_2, c_3, c_4, fs, l)
    ) else (
      (Option.bind (__disk_Disk__Append F c y_0.1 c_4 fs l) fun y_1 => (
        (bif (y_1.1 != (0 : Int)) then (
          some ((3 : Int), c, c_2, c_3, y_1.2.1, y_1.2.2.1, y_1.2.2.2)
        ) else (
          some ((0 : Int), c, c_2, (IntKind.wrap IntKind.i64 (c_3 + (1 : Int))), y_1.2.1, y_1.2.2.1, y_1.2.2.2)
        ))
      ))
    ))
  ))

def matinslaw10_WalKeeps_l0 (F : Nat) (script : (List matinslaw10_Do)) : Nat → Int → Int → Int → (List UInt8) → Int → Int → (List (List Int)) → (List ((List UInt8) × (List Int))) → (List disk_write) → Option (((Bool) ⊕ (Int × Int × (List (List Int)) × (List ((List UInt8) × (List Int))) × (List disk_write))))
  | 0, _, _, _, _, _, _, _, _, _ => none
  | n_48 + 1, synced_49, i_50, c_51, c_52, c_53, c_54, l_55, fs_56, l_57 =>
    (Option.bind (
      (bif (decide (i_50 < (@Nat.cast Int instNatCastInt (List.length script)))) then (
        some (decide (i_50 < (100 : Int)))
      ) else (
        some false
      ))
    ) fun t41_58 => (
      (bif t41_58 then (
        (Option.bind (
          (bif decide ((0 : Int) ≤ i_50) then (
            (Option.bind ((script)[(Int.toNat i_50)]?) fun y_71 => (
              (bif (y_71.Kind == (0 : Int)) then (
                (Option.bind (__wal_Wal__Append_i1 F y_71.Rec c_52 c_53 c_54 c_51 fs_56 l_57) fun y_72 => (
                  (bif (y_72.1 == (0 : Int)) then (
                    (bif decide (((List.length l_55) + 1) ≤ LIM) then (
                      some (Sum.inr (synced_49, y_72.2.2.2.2.1, y_72.2.1, y_72.2.2.1, y_72.2.2.2.1, (l_55 ++ (y_71.Rec :: [])), y_72.2.2.2.2.2.1, y_72.2.2.2.2.2.2))
                    ) else none)
                  ) else (
                    some (Sum.inr (synced_49, y_72.2.2.2.2.1, y_72.2.1, y_72.2.2.1, y_72.2.2.2.1, l_55, y_72.2.2.2.2.2.1, y_72.2.2.2.2.2.2))
                  ))
                ))
              ) else (
                (bif (y_71.Kind == (1 : Int)) then (
                  (Option.bind (__wal_Wal__Sync F c_52 c_53 c_54 c_51 fs_56 l_57) fun y_73 => (
                    (bif (y_73.1 != (0 : Int)) then (
                      some (Sum.inl false)
                    ) else (
                      some (Sum.inr ((@Nat.cast Int instNatCastInt (List.length (List.map (cSl (cInt IntKind.u8)) l_55))), y_73.2.1, c_52, c_53, c_54, l_55, fs_56, y_73.2.2))
                    ))
                  ))
                ) else (
                  (bif (y_71.Kind == (2 : Int)) then (
                    (bif (decide ((100 : Int) < (@Nat.cast Int instNatCastInt (List.length y_71.Recs)))) then (
                      some (Sum.inr (synced_49, c_51, c_52, c_53, c_54, l_55, fs_56, l_57))
                    ) else (
                      (Option.bind (__wal_Wal__Reset F y_71.Recs c_52 c_53 c_54 c_51 fs_56 l_57) fun y_74 => (
                        (bif (y_74.1 == (3 : Int)) then (
                          some (Sum.inl true)
                        ) else (
                          (bif (y_74.1 == (0 : Int)) then (
                            (bif decide ((0 + (List.length y_71.Recs)) ≤ LIM) then (
                              some (Sum.inr ((@Nat.cast Int instNatCastInt (List.length ([] ++ (List.map (cSl (cInt IntKind.u8)) y_71.Recs)))), y_74.2.2.2.2.1, y_74.2.1, y_74.2.2.1, y_74.2.2.2.1, ([] ++ y_71.Recs), y_74.2.2.2.2.2.1, y_74.2.2.2.2.2.2))
                            ) else none)
                          ) else (
                            some (Sum.inr (synced_49, y_74.2.2.2.2.1, y_74.2.1, y_74.2.2.1, y_74.2.2.2.1, l_55, y_74.2.2.2.2.2.1, y_74.2.2.2.2.2.2))
                          ))
                        ))
                      ))
                    ))
                  ) else (
                    some (Sum.inr (synced_49, c_51, c_52, c_53, c_54, l_55, fs_56, l_57))
                  ))
                ))
              ))
            ))
          ) else none)
        ) fun o10 => Sum.elim (fun r => some (Sum.inl r)) (fun (synced_63, c_64, c_65, c_66, c_67, l_68, fs_69, l_70) => (
          (matinslaw10_WalKeeps_l0 F script n_48 synced_63 (IntKind.wrap IntKind.i64 (i_50 + (1 : Int))) c_64 c_65 c_66 c_67 l_68 fs_69 l_70)
        )) o10)
      ) else (
        some (Sum.inr (synced_49, c_51, l_55, fs_56, l_57))
      ))
    ))
def matinslaw10_WalKeeps (F : Nat) (script : (List matinslaw10_Do)) (keep : Int) (torn : Int) : Option Bool :=
  (Option.bind (matinslaw10_awake F) fun y_0 => (
    (bif (!y_0) then (
      some false
    ) else (
      (Option.bind (disk_New F) fun y_1 => (
        (Option.bind (wal_Open F y_1.1 y_1.2 []) fun y_2 => (
          (Sum.elim (fun y_2 => (
            (Option.bind (
              (bif (y_2.1 != (0 : Int)) then (
                some ()
              ) else (
                some ()
              ))
            ) fun _ => (
              some false
            ))
          )) (fun y_2 => (
            (Option.bind (
              (bif (y_2.2.1 != (0 : Int)) then (
                some true
              ) else (
                some false
              ))
            ) fun t33_3 => (
              (bif t33_3 then (
                some false
              ) else (
                (Option.bind (
                  (matinslaw10_WalKeeps_l0 F script F (0 : Int) (0 : Int) y_2.2.2.1 y_2.2.2.2.2.1 y_2.2.2.2.2.2.1 y_2.2.2.2.2.2.2.1 [] y_2.2.2.2.1 y_2.2.2.2.2.2.2.2)
                ) fun o6 => Sum.elim (fun r => some r) (fun (synced_30, c_31, l_32, fs_33, l_34) => (
                  (Option.bind (__disk_Disk__Crash F keep torn c_31 fs_33 l_34) fun y_75 => (
                    (Option.bind (wal_Open F y_75.1 y_75.2 []) fun y_76 => (
                      (Sum.elim (fun y_76 => (
                        (Option.bind (
                          (bif (y_76.1 != (0 : Int)) then (
                            some ()
                          ) else (
                            some ()
                          ))
                        ) fun _ => (
                          some (y_76.1 == (3 : Int))
                        ))
                      )) (fun y_76 => (
                        (Option.bind (
                          (bif (y_76.2.1 != (0 : Int)) then (
                            some true
                          ) else (
                            some false
                          ))
                        ) fun t104_77 => (
                          (bif t104_77 then (
                            some (y_76.2.1 == (3 : Int))
                          ) else (
                            (bif (decide (synced_30 ≤ (@Nat.cast Int instNatCastInt (List.length y_76.1)))) then (
                              (bif (decide ((@Nat.cast Int instNatCastInt (List.length y_76.1)) ≤ (@Nat.cast Int instNatCastInt (List.length l_32)))) then (
                                (bif decide ((Int.toNat (@Nat.cast Int instNatCastInt (List.length y_76.1))) ≤ (List.length l_32)) then (
                                  (Option.bind (matinsref10_Lists F y_76.1 (List.take (Int.toNat (@Nat.cast Int instNatCastInt (List.length (List.map (cSl (cInt IntKind.u8)) y_76.1)))) l_32)) fun y_78 => (
                                    (bif y_78 then (
                                      (Option.bind (__wal_Wal__Count F y_76.2.2.2.2.1 y_76.2.2.2.2.2.1 y_76.2.2.2.2.2.2.1 y_76.2.2.1 y_76.2.2.2.1 y_76.2.2.2.2.2.2.2) fun y_79 => (
                                        some (y_79 == (@Nat.cast Int instNatCastInt (List.length (List.map (cSl (cInt IntKind.u8)) y_76.1))))
                                      ))
                                    ) else (
                                      some false
                                    ))
                                  ))
                                ) else none)
                              ) else (
                                some false
                              ))
                            ) else (
                              some false
                            ))
                          ))
                        ))
                      )) y_76)
                    ))
                  ))
                )) o6)
              ))
            ))
          )) y_2)
        ))
      ))
    ))
  ))

def matinslaw10_WalAgain_l0 (F : Nat) (script : (List matinslaw10_Do)) : Nat → Int → Int → (List ((List UInt8) × (List Int))) → (List disk_write) → Option ((Int × (List ((List UInt8) × (List Int))) × (List disk_write)))
  | 0, _, _, _, _ => none
  | n_26 + 1, i_27, c_28, fs_29, l_30 =>
    (Option.bind (
      (bif (decide (i_27 < (@Nat.cast Int instNatCastInt (List.length script)))) then (
        some (decide (i_27 < (100 : Int)))
      ) else (
        some false
      ))
    ) fun t32_31 => (
      (bif t32_31 then (
        (bif decide ((0 : Int) ≤ i_27) then (
          (Option.bind ((script)[(Int.toNat i_27)]?) fun y_35 => (
            (bif decide ((0 : Int) ≤ i_27) then (
              (Option.bind ((script)[(Int.toNat i_27)]?) fun y_36 => (
                (Option.bind (__disk_Disk__Append F y_35.Name y_36.Rec c_28 fs_29 l_30) fun y_37 => (
                  (matinslaw10_WalAgain_l0 F script n_26 (IntKind.wrap IntKind.i64 (i_27 + (1 : Int))) y_37.2.1 y_37.2.2.1 y_37.2.2.2)
                ))
              ))
            ) else none)
          ))
        ) else none)
      ) else (
        some (c_28, fs_29, l_30)
      ))
    ))
def matinslaw10_WalAgain (F : Nat) (script : (List matinslaw10_Do)) (rec : (List Int)) : Option Bool :=
  (Option.bind (matinslaw10_awake F) fun y_0 => (
    (bif (!y_0) then (
      some false
    ) else (
      (Option.bind (disk_New F) fun y_1 => (
        (Option.bind (
          (matinslaw10_WalAgain_l0 F script F (0 : Int) y_1.1 y_1.2 [])
        ) fun (c_16, fs_17, l_18) => (
          (Option.bind (wal_Open F c_16 fs_17 l_18) fun y_38 => (
            (Sum.elim (fun y_38 => (
              (bif (y_38.1 != (0 : Int)) then (
                (bif (y_38.1 == (3 : Int)) then (
                  some ((@Nat.cast Int instNatCastInt (List.length (List.map (cSl (cInt IntKind.u8)) y_38.2.2.2.1))) == (0 : Int))
                ) else (
                  some false
                ))
              ) else (
                (Option.bind (wal_Open F y_38.2.1 y_38.2.2.1 y_38.2.2.2.2) fun y_39 => (
                  (Sum.elim (fun y_39 => (
                    (Option.bind (
                      (bif (y_39.1 != (0 : Int)) then (
                        some ()
                      ) else (
                        some ()
                      ))
                    ) fun _ => (
                      some false
                    ))
                  )) (fun y_39 => (
                    (Option.bind (
                      (bif (y_39.2.1 != (0 : Int)) then (
                        some true
                      ) else (
                        (Option.bind (matinsref10_Lists F y_38.2.2.2.1 y_39.1) fun y_42 => (
                          some (!y_42)
                        ))
                      ))
                    ) fun t79_41 => (
                      (bif t79_41 then (
                        some false
                      ) else (
                        (Option.bind (__wal_Wal__File F y_39.2.2.2.2.1 y_39.2.2.2.2.2.1 y_39.2.2.2.2.2.2.1 y_39.2.2.1 y_39.2.2.2.1 y_39.2.2.2.2.2.2.2) fun y_43 => (
                          (Option.bind (__disk_Disk__Read F y_43 y_39.2.2.1 y_39.2.2.2.1 y_39.2.2.2.2.2.2.2) fun y_44 => (
                            (Sum.elim (fun y_44 => (
                              (Option.bind (__wal_Wal__Append_i1 F rec y_39.2.2.2.2.1 y_39.2.2.2.2.2.1 y_39.2.2.2.2.2.2.1 y_39.2.2.1 y_39.2.2.2.1 y_39.2.2.2.2.2.2.2) fun y_45 => (
                                (Option.bind (wal_Open F y_45.2.2.2.2.1 y_45.2.2.2.2.2.1 y_45.2.2.2.2.2.2) fun y_46 => (
                                  (Sum.elim (fun y_46 => (
                                    (Option.bind (
                                      (bif (y_46.1 != (0 : Int)) then (
                                        some ()
                                      ) else (
                                        some ()
                                      ))
                                    ) fun _ => (
                                      some false
                                    ))
                                  )) (fun y_46 => (
                                    (Option.bind (
                                      (bif (y_46.2.1 != (0 : Int)) then (
                                        some true
                                      ) else (
                                        (Option.bind (__wal_Wal__File F y_46.2.2.2.2.1 y_46.2.2.2.2.2.1 y_46.2.2.2.2.2.2.1 y_46.2.2.1 y_46.2.2.2.1 y_46.2.2.2.2.2.2.2) fun y_49 => (
                                          some (!(y_49 == y_43))
                                        ))
                                      ))
                                    ) fun t108_48 => (
                                      (bif t108_48 then (
                                        some false
                                      ) else (
                                        (Option.bind (__disk_Disk__Read F y_43 y_46.2.2.1 y_46.2.2.2.1 y_46.2.2.2.2.2.2.2) fun y_50 => (
                                          (Sum.elim (fun y_50 => (
                                            (bif (y_45.1 != (0 : Int)) then (
                                              (Option.bind (matinsref10_Lists F y_46.1 y_38.2.2.2.1) fun y_51 => (
                                                (bif y_51 then (
                                                  (bif bytesOk y_44.2 then (
                                                    (bif bytesOk y_50.2 then (
                                                      some ((@toBytes y_44.2) == (@toBytes y_50.2))
                                                    ) else none)
                                                  ) else none)
                                                ) else (
                                                  some false
                                                ))
                                              ))
                                            ) else (
                                              (bif ((@Nat.cast Int instNatCastInt (List.length y_46.1)) == (IntKind.wrap IntKind.i64 ((@Nat.cast Int instNatCastInt (List.length y_38.2.2.2.1)) + (1 : Int)))) then (
                                                (bif decide (0 ≤ (Int.toNat (@Nat.cast Int instNatCastInt (List.length y_38.2.2.2.1)))) then (
                                                  (bif decide ((Int.toNat (@Nat.cast Int instNatCastInt (List.length y_38.2.2.2.1))) ≤ (List.length y_46.1)) then (
                                                    (Option.bind (matinsref10_Lists F (List.take (Int.toNat (@Nat.cast Int instNatCastInt (List.length (List.map (cSl (cInt IntKind.u8)) y_38.2.2.2.1)))) y_46.1) y_38.2.2.2.1) fun y_52 => (
                                                      (bif y_52 then (
                                                        (Option.bind ((y_46.1)[(Int.toNat (@Nat.cast Int instNatCastInt (List.length (List.map (cSl (cInt IntKind.u8)) y_38.2.2.2.1))))]?) fun y_53 => (
                                                          (bif bytesOk y_53 then (
                                                            (bif bytesOk rec then (
                                                              (bif ((@toBytes y_53) == (@toBytes rec)) then (
                                                                (bif (decide ((@Nat.cast Int instNatCastInt (List.length y_44.2)) < (@Nat.cast Int instNatCastInt (List.length y_50.2)))) then (
                                                                  (bif decide ((Int.toNat (@Nat.cast Int instNatCastInt (List.length y_44.2))) ≤ (List.length y_50.2)) then (
                                                                    (bif bytesOk (List.take (Int.toNat (@Nat.cast Int instNatCastInt (List.length (List.map (cInt IntKind.u8) y_44.2)))) y_50.2) then (
                                                                      (bif bytesOk y_44.2 then (
                                                                        some ((@toBytes (List.take (Int.toNat (@Nat.cast Int instNatCastInt (List.length (List.map (cInt IntKind.u8) y_44.2)))) y_50.2)) == (@toBytes y_44.2))
                                                                      ) else none)
                                                                    ) else none)
                                                                  ) else none)
                                                                ) else (
                                                                  some false
                                                                ))
                                                              ) else (
                                                                some false
                                                              ))
                                                            ) else none)
                                                          ) else none)
                                                        ))
                                                      ) else (
                                                        some false
                                                      ))
                                                    ))
                                                  ) else none)
                                                ) else none)
                                              ) else (
                                                some false
                                              ))
                                            ))
                                          )) (fun y_50 => (
                                            (bif (y_45.1 != (0 : Int)) then (
                                              (Option.bind (matinsref10_Lists F y_46.1 y_38.2.2.2.1) fun y_54 => (
                                                (bif y_54 then (
                                                  (bif bytesOk y_44.2 then (
                                                    (bif bytesOk y_50.1 then (
                                                      some ((@toBytes y_44.2) == (@toBytes y_50.1))
                                                    ) else none)
                                                  ) else none)
                                                ) else (
                                                  some false
                                                ))
                                              ))
                                            ) else (
                                              (bif ((@Nat.cast Int instNatCastInt (List.length y_46.1)) == (IntKind.wrap IntKind.i64 ((@Nat.cast Int instNatCastInt (List.length y_38.2.2.2.1)) + (1 : Int)))) then (
                                                (bif decide (0 ≤ (Int.toNat (@Nat.cast Int instNatCastInt (List.length y_38.2.2.2.1)))) then (
                                                  (bif decide ((Int.toNat (@Nat.cast Int instNatCastInt (List.length y_38.2.2.2.1))) ≤ (List.length y_46.1)) then (
                                                    (Option.bind (matinsref10_Lists F (List.take (Int.toNat (@Nat.cast Int instNatCastInt (List.length (List.map (cSl (cInt IntKind.u8)) y_38.2.2.2.1)))) y_46.1) y_38.2.2.2.1) fun y_55 => (
                                                      (bif y_55 then (
                                                        (Option.bind ((y_46.1)[(Int.toNat (@Nat.cast Int instNatCastInt (List.length (List.map (cSl (cInt IntKind.u8)) y_38.2.2.2.1))))]?) fun y_56 => (
                                                          (bif bytesOk y_56 then (
                                                            (bif bytesOk rec then (
                                                              (bif ((@toBytes y_56) == (@toBytes rec)) then (
                                                                (bif (decide ((@Nat.cast Int instNatCastInt (List.length y_44.2)) < (@Nat.cast Int instNatCastInt (List.length y_50.1)))) then (
                                                                  (bif decide (0 ≤ (Int.toNat (@Nat.cast Int instNatCastInt (List.length y_44.2)))) then (
                                                                    (bif decide ((Int.toNat (@Nat.cast Int instNatCastInt (List.length y_44.2))) ≤ (List.length y_50.1)) then (
                                                                      (bif bytesOk (List.take (Int.toNat (@Nat.cast Int instNatCastInt (List.length (List.map (cInt IntKind.u8) y_44.2)))) y_50.1) then (
                                                                        (bif bytesOk y_44.2 then (
                                                                          some ((@toBytes (List.take (Int.toNat (@Nat.cast Int instNatCastInt (List.length (List.map (cInt IntKind.u8) y_44.2)))) y_50.1)) == (@toBytes y_44.2))
                                                                        ) else none)
                                                                      ) else none)
                                                                    ) else none)
                                                                  ) else none)
                                                                ) else (
                                                                  some false
                                                                ))
                                                              ) else (
                                                                some false
                                                              ))
                                                            ) else none)
                                                          ) else none)
                                                        ))
                                                      ) else (
                                                        some false
                                                      ))
                                                    ))
                                                  ) else none)
                                                ) else none)
                                              ) else (
                                                some false
                                              ))
                                            ))
                                          )) y_50)
                                        ))
                                      ))
                                    ))
                                  )) y_46)
                                ))
                              ))
                            )) (fun y_44 => (
                              (Option.bind (__wal_Wal__Append_i1 F rec y_39.2.2.2.2.1 y_39.2.2.2.2.2.1 y_39.2.2.2.2.2.2.1 y_39.2.2.1 y_39.2.2.2.1 y_39.2.2.2.2.2.2.2) fun y_57 => (
                                (Option.bind (wal_Open F y_57.2.2.2.2.1 y_57.2.2.2.2.2.1 y_57.2.2.2.2.2.2) fun y_58 => (
                                  (Sum.elim (fun y_58 => (
                                    (Option.bind (
                                      (bif (y_58.1 != (0 : Int)) then (
                                        some ()
                                      ) else (
                                        some ()
                                      ))
                                    ) fun _ => (
                                      some false
                                    ))
                                  )) (fun y_58 => (
                                    (Option.bind (
                                      (bif (y_58.2.1 != (0 : Int)) then (
                                        some true
                                      ) else (
                                        (Option.bind (__wal_Wal__File F y_58.2.2.2.2.1 y_58.2.2.2.2.2.1 y_58.2.2.2.2.2.2.1 y_58.2.2.1 y_58.2.2.2.1 y_58.2.2.2.2.2.2.2) fun y_61 => (
                                          some (!(y_61 == y_43))
                                        ))
                                      ))
                                    ) fun t108_60 => (
                                      (bif t108_60 then (
                                        some false
                                      ) else (
                                        (Option.bind (__disk_Disk__Read F y_43 y_58.2.2.1 y_58.2.2.2.1 y_58.2.2.2.2.2.2.2) fun y_62 => (
                                          (Sum.elim (fun y_62 => (
                                            (bif (y_57.1 != (0 : Int)) then (
                                              (Option.bind (matinsref10_Lists F y_58.1 y_38.2.2.2.1) fun y_63 => (
                                                (bif y_63 then (
                                                  (bif bytesOk y_44.1 then (
                                                    (bif bytesOk y_62.2 then (
                                                      some ((@toBytes y_44.1) == (@toBytes y_62.2))
                                                    ) else none)
                                                  ) else none)
                                                ) else (
                                                  some false
                                                ))
                                              ))
                                            ) else (
                                              (bif ((@Nat.cast Int instNatCastInt (List.length y_58.1)) == (IntKind.wrap IntKind.i64 ((@Nat.cast Int instNatCastInt (List.length y_38.2.2.2.1)) + (1 : Int)))) then (
                                                (bif decide (0 ≤ (Int.toNat (@Nat.cast Int instNatCastInt (List.length y_38.2.2.2.1)))) then (
                                                  (bif decide ((Int.toNat (@Nat.cast Int instNatCastInt (List.length y_38.2.2.2.1))) ≤ (List.length y_58.1)) then (
                                                    (Option.bind (matinsref10_Lists F (List.take (Int.toNat (@Nat.cast Int instNatCastInt (List.length (List.map (cSl (cInt IntKind.u8)) y_38.2.2.2.1)))) y_58.1) y_38.2.2.2.1) fun y_64 => (
                                                      (bif y_64 then (
                                                        (Option.bind ((y_58.1)[(Int.toNat (@Nat.cast Int instNatCastInt (List.length (List.map (cSl (cInt IntKind.u8)) y_38.2.2.2.1))))]?) fun y_65 => (
                                                          (bif bytesOk y_65 then (
                                                            (bif bytesOk rec then (
                                                              (bif ((@toBytes y_65) == (@toBytes rec)) then (
                                                                (bif (decide ((@Nat.cast Int instNatCastInt (List.length y_44.1)) < (@Nat.cast Int instNatCastInt (List.length y_62.2)))) then (
                                                                  (bif decide ((Int.toNat (@Nat.cast Int instNatCastInt (List.length y_44.1))) ≤ (List.length y_62.2)) then (
                                                                    (bif bytesOk (List.take (Int.toNat (@Nat.cast Int instNatCastInt (List.length (List.map (cInt IntKind.u8) y_44.1)))) y_62.2) then (
                                                                      (bif bytesOk y_44.1 then (
                                                                        some ((@toBytes (List.take (Int.toNat (@Nat.cast Int instNatCastInt (List.length (List.map (cInt IntKind.u8) y_44.1)))) y_62.2)) == (@toBytes y_44.1))
                                                                      ) else none)
                                                                    ) else none)
                                                                  ) else none)
                                                                ) else (
                                                                  some false
                                                                ))
                                                              ) else (
                                                                some false
                                                              ))
                                                            ) else none)
                                                          ) else none)
                                                        ))
                                                      ) else (
                                                        some false
                                                      ))
                                                    ))
                                                  ) else none)
                                                ) else none)
                                              ) else (
                                                some false
                                              ))
                                            ))
                                          )) (fun y_62 => (
                                            (bif (y_57.1 != (0 : Int)) then (
                                              (Option.bind (matinsref10_Lists F y_58.1 y_38.2.2.2.1) fun y_66 => (
                                                (bif y_66 then (
                                                  (bif bytesOk y_44.1 then (
                                                    (bif bytesOk y_62.1 then (
                                                      some ((@toBytes y_44.1) == (@toBytes y_62.1))
                                                    ) else none)
                                                  ) else none)
                                                ) else (
                                                  some false
                                                ))
                                              ))
                                            ) else (
                                              (bif ((@Nat.cast Int instNatCastInt (List.length y_58.1)) == (IntKind.wrap IntKind.i64 ((@Nat.cast Int instNatCastInt (List.length y_38.2.2.2.1)) + (1 : Int)))) then (
                                                (bif decide (0 ≤ (Int.toNat (@Nat.cast Int instNatCastInt (List.length y_38.2.2.2.1)))) then (
                                                  (bif decide ((Int.toNat (@Nat.cast Int instNatCastInt (List.length y_38.2.2.2.1))) ≤ (List.length y_58.1)) then (
                                                    (Option.bind (matinsref10_Lists F (List.take (Int.toNat (@Nat.cast Int instNatCastInt (List.length (List.map (cSl (cInt IntKind.u8)) y_38.2.2.2.1)))) y_58.1) y_38.2.2.2.1) fun y_67 => (
                                                      (bif y_67 then (
                                                        (Option.bind ((y_58.1)[(Int.toNat (@Nat.cast Int instNatCastInt (List.length (List.map (cSl (cInt IntKind.u8)) y_38.2.2.2.1))))]?) fun y_68 => (
                                                          (bif bytesOk y_68 then (
                                                            (bif bytesOk rec then (
                                                              (bif ((@toBytes y_68) == (@toBytes rec)) then (
                                                                (bif (decide ((@Nat.cast Int instNatCastInt (List.length y_44.1)) < (@Nat.cast Int instNatCastInt (List.length y_62.1)))) then (
                                                                  (bif decide (0 ≤ (Int.toNat (@Nat.cast Int instNatCastInt (List.length y_44.1)))) then (
                                                                    (bif decide ((Int.toNat (@Nat.cast Int instNatCastInt (List.length y_44.1))) ≤ (List.length y_62.1)) then (
                                                                      (bif bytesOk (List.take (Int.toNat (@Nat.cast Int instNatCastInt (List.length (List.map (cInt IntKind.u8) y_44.1)))) y_62.1) then (
                                                                        (bif bytesOk y_44.1 then (
                                                                          some ((@toBytes (List.take (Int.toNat (@Nat.cast Int instNatCastInt (List.length (List.map (cInt IntKind.u8) y_44.1)))) y_62.1)) == (@toBytes y_44.1))
                                                                        ) else none)
                                                                      ) else none)
                                                                    ) else none)
                                                                  ) else none)
                                                                ) else (
                                                                  some false
                                                                ))
                                                              ) else (
                                                                some false
                                                              ))
                                                            ) else none)
                                                          ) else none)
                                                        ))
                                                      ) else (
                                                        some false
                                                      ))
                                                    ))
                                                  ) else none)
                                                ) else none)
                                              ) else (
                                                some false
                                              ))
                                            ))
                                          )) y_62)
                                        ))
                                      ))
                                    ))
                                  )) y_58)
                                ))
                              ))
                            )) y_44)
                          ))
                        ))
                      ))
                    ))
                  )) y_39)
                ))
              ))
            )) (fun y_38 => (
              (bif (y_38.2.1 != (0 : Int)) then (
                (bif (y_38.2.1 == (3 : Int)) then (
                  some ((@Nat.cast Int instNatCastInt (List.length (List.map (cSl (cInt IntKind.u8)) y_38.1))) == (0 : Int))
                ) else (
                  some false
                ))
              ) else (
                (Option.bind (wal_Open F y_38.2.2.1 y_38.2.2.2.1 y_38.2.2.2.2.2.2.2) fun y_69 => (
                  (Sum.elim (fun y_69 => (
                    (Option.bind (
                      (bif (y_69.1 != (0 : Int)) then (
                        some ()
                      ) else (
                        some ()
                      ))
                    ) fun _ => (
                      some false
                    ))
                  )) (fun y_69 => (
                    (Option.bind (
                      (bif (y_69.2.1 != (0 : Int)) then (
                        some true
                      ) else (
                        (Option.bind (matinsref10_Lists F y_38.1 y_69.1) fun y_72 => (
                          some (!y_72)
                        ))
                      ))
                    ) fun t79_71 => (
                      (bif t79_71 then (
                        some false
                      ) else (
                        (Option.bind (__wal_Wal__File F y_69.2.2.2.2.1 y_69.2.2.2.2.2.1 y_69.2.2.2.2.2.2.1 y_69.2.2.1 y_69.2.2.2.1 y_69.2.2.2.2.2.2.2) fun y_73 => (
                          (Option.bind (__disk_Disk__Read F y_73 y_69.2.2.1 y_69.2.2.2.1 y_69.2.2.2.2.2.2.2) fun y_74 => (
                            (Sum.elim (fun y_74 => (
                              (Option.bind (__wal_Wal__Append_i1 F rec y_69.2.2.2.2.1 y_69.2.2.2.2.2.1 y_69.2.2.2.2.2.2.1 y_69.2.2.1 y_69.2.2.2.1 y_69.2.2.2.2.2.2.2) fun y_75 => (
                                (Option.bind (wal_Open F y_75.2.2.2.2.1 y_75.2.2.2.2.2.1 y_75.2.2.2.2.2.2) fun y_76 => (
                                  (Sum.elim (fun y_76 => (
                                    (Option.bind (
                                      (bif (y_76.1 != (0 : Int)) then (
                                        some ()
                                      ) else (
                                        some ()
                                      ))
                                    ) fun _ => (
                                      some false
                                    ))
                                  )) (fun y_76 => (
                                    (Option.bind (
                                      (bif (y_76.2.1 != (0 : Int)) then (
                                        some true
                                      ) else (
                                        (Option.bind (__wal_Wal__File F y_76.2.2.2.2.1 y_76.2.2.2.2.2.1 y_76.2.2.2.2.2.2.1 y_76.2.2.1 y_76.2.2.2.1 y_76.2.2.2.2.2.2.2) fun y_79 => (
                                          some (!(y_79 == y_73))
                                        ))
                                      ))
                                    ) fun t108_78 => (
                                      (bif t108_78 then (
                                        some false
                                      ) else (
                                        (Option.bind (__disk_Disk__Read F y_73 y_76.2.2.1 y_76.2.2.2.1 y_76.2.2.2.2.2.2.2) fun y_80 => (
                                          (Sum.elim (fun y_80 => (
                                            (bif (y_75.1 != (0 : Int)) then (
                                              (Option.bind (matinsref10_Lists F y_76.1 y_38.1) fun y_81 => (
                                                (bif y_81 then (
                                                  (bif bytesOk y_74.2 then (
                                                    (bif bytesOk y_80.2 then (
                                                      some ((@toBytes y_74.2) == (@toBytes y_80.2))
                                                    ) else none)
                                                  ) else none)
                                                ) else (
                                                  some false
                                                ))
                                              ))
                                            ) else (
                                              (bif ((@Nat.cast Int instNatCastInt (List.length y_76.1)) == (IntKind.wrap IntKind.i64 ((@Nat.cast Int instNatCastInt (List.length y_38.1)) + (1 : Int)))) then (
                                                (bif decide (0 ≤ (Int.toNat (@Nat.cast Int instNatCastInt (List.length y_38.1)))) then (
                                                  (bif decide ((Int.toNat (@Nat.cast Int instNatCastInt (List.length y_38.1))) ≤ (List.length y_76.1)) then (
                                                    (Option.bind (matinsref10_Lists F (List.take (Int.toNat (@Nat.cast Int instNatCastInt (List.length (List.map (cSl (cInt IntKind.u8)) y_38.1)))) y_76.1) y_38.1) fun y_82 => (
                                                      (bif y_82 then (
                                                        (Option.bind ((y_76.1)[(Int.toNat (@Nat.cast Int instNatCastInt (List.length (List.map (cSl (cInt IntKind.u8)) y_38.1))))]?) fun y_83 => (
                                                          (bif bytesOk y_83 then (
                                                            (bif bytesOk rec then (
                                                              (bif ((@toBytes y_83) == (@toBytes rec)) then (
                                                                (bif (decide ((@Nat.cast Int instNatCastInt (List.length y_74.2)) < (@Nat.cast Int instNatCastInt (List.length y_80.2)))) then (
                                                                  (bif decide ((Int.toNat (@Nat.cast Int instNatCastInt (List.length y_74.2))) ≤ (List.length y_80.2)) then (
                                                                    (bif bytesOk (List.take (Int.toNat (@Nat.cast Int instNatCastInt (List.length (List.map (cInt IntKind.u8) y_74.2)))) y_80.2) then (
                                                                      (bif bytesOk y_74.2 then (
                                                                        some ((@toBytes (List.take (Int.toNat (@Nat.cast Int instNatCastInt (List.length (List.map (cInt IntKind.u8) y_74.2)))) y_80.2)) == (@toBytes y_74.2))
                                                                      ) else none)
                                                                    ) else none)
                                                                  ) else none)
                                                                ) else (
                                                                  some false
                                                                ))
                                                              ) else (
                                                                some false
                                                              ))
                                                            ) else none)
                                                          ) else none)
                                                        ))
                                                      ) else (
                                                        some false
                                                      ))
                                                    ))
                                                  ) else none)
                                                ) else none)
                                              ) else (
                                                some false
                                              ))
                                            ))
                                          )) (fun y_80 => (
                                            (bif (y_75.1 != (0 : Int)) then (
                                              (Option.bind (matinsref10_Lists F y_76.1 y_38.1) fun y_84 => (
                                                (bif y_84 then (
                                                  (bif bytesOk y_74.2 then (
                                                    (bif bytesOk y_80.1 then (
                                                      some ((@toBytes y_74.2) == (@toBytes y_80.1))
                                                    ) else none)
                                                  ) else none)
                                                ) else (
                                                  some false
                                                ))
                                              ))
                                            ) else (
                                              (bif ((@Nat.cast Int instNatCastInt (List.length y_76.1)) == (IntKind.wrap IntKind.i64 ((@Nat.cast Int instNatCastInt (List.length y_38.1)) + (1 : Int)))) then (
                                                (bif decide (0 ≤ (Int.toNat (@Nat.cast Int instNatCastInt (List.length y_38.1)))) then (
                                                  (bif decide ((Int.toNat (@Nat.cast Int instNatCastInt (List.length y_38.1))) ≤ (List.length y_76.1)) then (
                                                    (Option.bind (matinsref10_Lists F (List.take (Int.toNat (@Nat.cast Int instNatCastInt (List.length (List.map (cSl (cInt IntKind.u8)) y_38.1)))) y_76.1) y_38.1) fun y_85 => (
                                                      (bif y_85 then (
                                                        (Option.bind ((y_76.1)[(Int.toNat (@Nat.cast Int instNatCastInt (List.length (List.map (cSl (cInt IntKind.u8)) y_38.1))))]?) fun y_86 => (
                                                          (bif bytesOk y_86 then (
                                                            (bif bytesOk rec then (
                                                              (bif ((@toBytes y_86) == (@toBytes rec)) then (
                                                                (bif (decide ((@Nat.cast Int instNatCastInt (List.length y_74.2)) < (@Nat.cast Int instNatCastInt (List.length y_80.1)))) then (
                                                                  (bif decide (0 ≤ (Int.toNat (@Nat.cast Int instNatCastInt (List.length y_74.2)))) then (
                                                                    (bif decide ((Int.toNat (@Nat.cast Int instNatCastInt (List.length y_74.2))) ≤ (List.length y_80.1)) then (
                                                                      (bif bytesOk (List.take (Int.toNat (@Nat.cast Int instNatCastInt (List.length (List.map (cInt IntKind.u8) y_74.2)))) y_80.1) then (
                                                                        (bif bytesOk y_74.2 then (
                                                                          some ((@toBytes (List.take (Int.toNat (@Nat.cast Int instNatCastInt (List.length (List.map (cInt IntKind.u8) y_74.2)))) y_80.1)) == (@toBytes y_74.2))
                                                                        ) else none)
                                                                      ) else none)
                                                                    ) else none)
                                                                  ) else none)
                                                                ) else (
                                                                  some false
                                                                ))
                                                              ) else (
                                                                some false
                                                              ))
                                                            ) else none)
                                                          ) else none)
                                                        ))
                                                      ) else (
                                                        some false
                                                      ))
                                                    ))
                                                  ) else none)
                                                ) else none)
                                              ) else (
                                                some false
                                              ))
                                            ))
                                          )) y_80)
                                        ))
                                      ))
                                    ))
                                  )) y_76)
                                ))
                              ))
                            )) (fun y_74 => (
                              (Option.bind (__wal_Wal__Append_i1 F rec y_69.2.2.2.2.1 y_69.2.2.2.2.2.1 y_69.2.2.2.2.2.2.1 y_69.2.2.1 y_69.2.2.2.1 y_69.2.2.2.2.2.2.2) fun y_87 => (
                                (Option.bind (wal_Open F y_87.2.2.2.2.1 y_87.2.2.2.2.2.1 y_87.2.2.2.2.2.2) fun y_88 => (
                                  (Sum.elim (fun y_88 => (
                                    (Option.bind (
                                      (bif (y_88.1 != (0 : Int)) then (
                                        some ()
                                      ) else (
                                        some ()
                                      ))
                                    ) fun _ => (
                                      some false
                                    ))
                                  )) (fun y_88 => (
                                    (Option.bind (
                                      (bif (y_88.2.1 != (0 : Int)) then (
                                        some true
                                      ) else (
                                        (Option.bind (__wal_Wal__File F y_88.2.2.2.2.1 y_88.2.2.2.2.2.1 y_88.2.2.2.2.2.2.1 y_88.2.2.1 y_88.2.2.2.1 y_88.2.2.2.2.2.2.2) fun y_91 => (
                                          some (!(y_91 == y_73))
                                        ))
                                      ))
                                    ) fun t108_90 => (
                                      (bif t108_90 then (
                                        some false
                                      ) else (
                                        (Option.bind (__disk_Disk__Read F y_73 y_88.2.2.1 y_88.2.2.2.1 y_88.2.2.2.2.2.2.2) fun y_92 => (
                                          (Sum.elim (fun y_92 => (
                                            (bif (y_87.1 != (0 : Int)) then (
                                              (Option.bind (matinsref10_Lists F y_88.1 y_38.1) fun y_93 => (
                                                (bif y_93 then (
                                                  (bif bytesOk y_74.1 then (
                                                    (bif bytesOk y_92.2 then (
                                                      some ((@toBytes y_74.1) == (@toBytes y_92.2))
                                                    ) else none)
                                                  ) else none)
                                                ) else (
                                                  some false
                                                ))
                                              ))
                                            ) else (
                                              (bif ((@Nat.cast Int instNatCastInt (List.length y_88.1)) == (IntKind.wrap IntKind.i64 ((@Nat.cast Int instNatCastInt (List.length y_38.1)) + (1 : Int)))) then (
                                                (bif decide (0 ≤ (Int.toNat (@Nat.cast Int instNatCastInt (List.length y_38.1)))) then (
                                                  (bif decide ((Int.toNat (@Nat.cast Int instNatCastInt (List.length y_38.1))) ≤ (List.length y_88.1)) then (
                                                    (Option.bind (matinsref10_Lists F (List.take (Int.toNat (@Nat.cast Int instNatCastInt (List.length (List.map (cSl (cInt IntKind.u8)) y_38.1)))) y_88.1) y_38.1) fun y_94 => (
                                                      (bif y_94 then (
                                                        (Option.bind ((y_88.1)[(Int.toNat (@Nat.cast Int instNatCastInt (List.length (List.map (cSl (cInt IntKind.u8)) y_38.1))))]?) fun y_95 => (
                                                          (bif bytesOk y_95 then (
                                                            (bif bytesOk rec then (
                                                              (bif ((@toBytes y_95) == (@toBytes rec)) then (
                                                                (bif (decide ((@Nat.cast Int instNatCastInt (List.length y_74.1)) < (@Nat.cast Int instNatCastInt (List.length y_92.2)))) then (
                                                                  (bif decide ((Int.toNat (@Nat.cast Int instNatCastInt (List.length y_74.1))) ≤ (List.length y_92.2)) then (
                                                                    (bif bytesOk (List.take (Int.toNat (@Nat.cast Int instNatCastInt (List.length (List.map (cInt IntKind.u8) y_74.1)))) y_92.2) then (
                                                                      (bif bytesOk y_74.1 then (
                                                                        some ((@toBytes (List.take (Int.toNat (@Nat.cast Int instNatCastInt (List.length (List.map (cInt IntKind.u8) y_74.1)))) y_92.2)) == (@toBytes y_74.1))
                                                                      ) else none)
                                                                    ) else none)
                                                                  ) else none)
                                                                ) else (
                                                                  some false
                                                                ))
                                                              ) else (
                                                                some false
                                                              ))
                                                            ) else none)
                                                          ) else none)
                                                        ))
                                                      ) else (
                                                        some false
                                                      ))
                                                    ))
                                                  ) else none)
                                                ) else none)
                                              ) else (
                                                some false
                                              ))
                                            ))
                                          )) (fun y_92 => (
                                            (bif (y_87.1 != (0 : Int)) then (
                                              (Option.bind (matinsref10_Lists F y_88.1 y_38.1) fun y_96 => (
                                                (bif y_96 then (
                                                  (bif bytesOk y_74.1 then (
                                                    (bif bytesOk y_92.1 then (
                                                      some ((@toBytes y_74.1) == (@toBytes y_92.1))
                                                    ) else none)
                                                  ) else none)
                                                ) else (
                                                  some false
                                                ))
                                              ))
                                            ) else (
                                              (bif ((@Nat.cast Int instNatCastInt (List.length y_88.1)) == (IntKind.wrap IntKind.i64 ((@Nat.cast Int instNatCastInt (List.length y_38.1)) + (1 : Int)))) then (
                                                (bif decide (0 ≤ (Int.toNat (@Nat.cast Int instNatCastInt (List.length y_38.1)))) then (
                                                  (bif decide ((Int.toNat (@Nat.cast Int instNatCastInt (List.length y_38.1))) ≤ (List.length y_88.1)) then (
                                                    (Option.bind (matinsref10_Lists F (List.take (Int.toNat (@Nat.cast Int instNatCastInt (List.length (List.map (cSl (cInt IntKind.u8)) y_38.1)))) y_88.1) y_38.1) fun y_97 => (
                                                      (bif y_97 then (
                                                        (Option.bind ((y_88.1)[(Int.toNat (@Nat.cast Int instNatCastInt (List.length (List.map (cSl (cInt IntKind.u8)) y_38.1))))]?) fun y_98 => (
                                                          (bif bytesOk y_98 then (
                                                            (bif bytesOk rec then (
                                                              (bif ((@toBytes y_98) == (@toBytes rec)) then (
                                                                (bif (decide ((@Nat.cast Int instNatCastInt (List.length y_74.1)) < (@Nat.cast Int instNatCastInt (List.length y_92.1)))) then (
                                                                  (bif decide (0 ≤ (Int.toNat (@Nat.cast Int instNatCastInt (List.length y_74.1)))) then (
                                                                    (bif decide ((Int.toNat (@Nat.cast Int instNatCastInt (List.length y_74.1))) ≤ (List.length y_92.1)) then (
                                                                      (bif bytesOk (List.take (Int.toNat (@Nat.cast Int instNatCastInt (List.length (List.map (cInt IntKind.u8) y_74.1)))) y_92.1) then (
                                                                        (bif bytesOk y_74.1 then (
                                                                          some ((@toBytes (List.take (Int.toNat (@Nat.cast Int instNatCastInt (List.length (List.map (cInt IntKind.u8) y_74.1)))) y_92.1)) == (@toBytes y_74.1))
                                                                        ) else none)
                                                                      ) else none)
                                                                    ) else none)
                                                                  ) else none)
                                                                ) else (
                                                                  some false
                                                                ))
                                                              ) else (
                                                                some false
                                                              ))
                                                            ) else none)
                                                          ) else none)
                                                        ))
                                                      ) else (
                                                        some false
                                                      ))
                                                    ))
                                                  ) else none)
                                                ) else none)
                                              ) else (
                                                some false
                                              ))
                                            ))
                                          )) y_92)
                                        ))
                                      ))
                                    ))
                                  )) y_88)
                                ))
                              ))
                            )) y_74)
                          ))
                        ))
                      ))
                    ))
                  )) y_69)
                ))
              ))
            )) y_38)
          ))
        ))
      ))
    ))
  ))

def matinslaw10_WalLays_l0 (F : Nat) (script : (List matinslaw10_Do)) : Nat → Int → Int → (List UInt8) → Int → Int → (List ((List UInt8) × (List Int))) → (List disk_write) → Option ((Int × (List UInt8) × Int × Int × (List ((List UInt8) × (List Int))) × (List disk_write)))
  | 0, _, _, _, _, _, _, _ => none
  | n_40 + 1, i_41, c_42, c_43, c_44, c_45, fs_46, l_47 =>
    (Option.bind (
      (bif (decide (i_41 < (@Nat.cast Int instNatCastInt (List.length script)))) then (
        some (decide (i_41 < (100 : Int)))
      ) else (
        some false
      ))
    ) fun t49_48 => (
      (bif t49_48 then (
        (Option.bind (
          (bif decide ((0 : Int) ≤ i_41) then (
            (Option.bind ((script)[(Int.toNat i_41)]?) fun y_58 => (
              (bif (y_58.Kind == (0 : Int)) then (
                (bif decide ((0 : Int) ≤ i_41) then (
                  (Option.bind ((script)[(Int.toNat i_41)]?) fun y_59 => (
                    (Option.bind (__wal_Wal__Append_i1 F y_59.Rec c_43 c_44 c_45 c_42 fs_46 l_47) fun y_60 => (
                      some (y_60.2.2.2.2.1, y_60.2.1, y_60.2.2.1, y_60.2.2.2.1, y_60.2.2.2.2.2.1, y_60.2.2.2.2.2.2)
                    ))
                  ))
                ) else none)
              ) else (
                some (c_42, c_43, c_44, c_45, fs_46, l_47)
              ))
            ))
          ) else none)
        ) fun (c_52, c_53, c_54, c_55, fs_56, l_57) => (
          (matinslaw10_WalLays_l0 F script n_40 (IntKind.wrap IntKind.i64 (i_41 + (1 : Int))) c_52 c_53 c_54 c_55 fs_56 l_57)
        ))
      ) else (
        some (c_42, c_43, c_44, c_45, fs_46, l_47)
      ))
    ))
def matinslaw10_WalLays (F : Nat) (script : (List matinslaw10_Do)) (recs : (List (List Int))) (keep : Int) (torn : Int) : Option Bool :=
  (Option.bind (matinslaw10_awake F) fun y_0 => (
    (bif (!y_0) then (
      some false
    ) else (
      (Option.bind (disk_New F) fun y_1 => (
        (Option.bind (wal_Open F y_1.1 y_1.2 []) fun y_2 => (
          (Sum.elim (fun y_2 => (
            (Option.bind (
              (bif (y_2.1 != (0 : Int)) then (
                some ()
              ) else (
                some ()
              ))
            ) fun _ => (
              some (decide ((100 : Int) < (@Nat.cast Int instNatCastInt (List.length (List.map (cSl (cInt IntKind.u8)) recs)))))
            ))
          )) (fun y_2 => (
            (Option.bind (
              (bif (y_2.2.1 != (0 : Int)) then (
                some true
              ) else (
                some (decide ((100 : Int) < (@Nat.cast Int instNatCastInt (List.length (List.map (cSl (cInt IntKind.u8)) recs)))))
              ))
            ) fun t38_3 => (
              (bif t38_3 then (
                some (decide ((100 : Int) < (@Nat.cast Int instNatCastInt (List.length (List.map (cSl (cInt IntKind.u8)) recs)))))
              ) else (
                (Option.bind (
                  (matinslaw10_WalLays_l0 F script F (0 : Int) y_2.2.2.1 y_2.2.2.2.2.1 y_2.2.2.2.2.2.1 y_2.2.2.2.2.2.2.1 y_2.2.2.2.1 y_2.2.2.2.2.2.2.2)
                ) fun (c_24, c_25, c_26, c_27, fs_28, l_29) => (
                  (Option.bind (__wal_Wal__Reset F recs c_25 c_26 c_27 c_24 fs_28 l_29) fun y_61 => (
                    (bif (y_61.1 != (0 : Int)) then (
                      (bif (y_61.1 == (1 : Int)) then (
                        some true
                      ) else (
                        some (y_61.1 == (3 : Int))
                      ))
                    ) else (
                      (Option.bind (__wal_Wal__Count F y_61.2.1 y_61.2.2.1 y_61.2.2.2.1 y_61.2.2.2.2.1 y_61.2.2.2.2.2.1 y_61.2.2.2.2.2.2) fun y_62 => (
                        (Option.bind (__disk_Disk__Crash F keep torn y_61.2.2.2.2.1 y_61.2.2.2.2.2.1 y_61.2.2.2.2.2.2) fun y_63 => (
                          (Option.bind (wal_Open F y_63.1 y_63.2 []) fun y_64 => (
                            (Sum.elim (fun y_64 => (
                              (bif (y_64.1 == (0 : Int)) then (
                                some false
                              ) else (
                                some false
                              ))
                            )) (fun y_64 => (
                              (bif (y_64.2.1 == (0 : Int)) then (
                                (bif (y_62 == (@Nat.cast Int instNatCastInt (List.length recs))) then (
                                  (Option.bind (matinsref10_Lists F y_64.1 recs) fun y_65 => (
                                    (bif y_65 then (
                                      (Option.bind (__disk_Disk__Names F y_64.2.2.1 y_64.2.2.2.1 y_64.2.2.2.2.2.2.2) fun y_66 => (
                                        some ((@Nat.cast Int instNatCastInt (List.length (List.map cStr y_66))) == (1 : Int))
                                      ))
                                    ) else (
                                      some false
                                    ))
                                  ))
                                ) else (
                                  some false
                                ))
                              ) else (
                                some false
                              ))
                            )) y_64)
                          ))
                        ))
                      ))
                    ))
                  ))
                ))
              ))
            ))
          )) y_2)
        ))
      ))
    ))
  ))

end Go.T
