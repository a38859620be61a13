/-
  SemTry: the typed functions that the program's functions compute. Printed by a program.
-/
import Derived.Test.YtndnfbggelcpiaaTy
set_option linter.unusedVariables false
set_option maxRecDepth 200000
namespace Go.T
open Go Go.Ab
def jobs_Named_l0 (F : Nat) (s : (List UInt8)) : Nat → Int → Option (((Bool) ⊕ Unit))
  | 0, _ => none
  | n_18 + 1, t8_19 =>
    (bif (decide (t8_19 < (((List.length s) : Nat) : Int))) then (
      (bif decide ((0 : Int) ≤ t8_19) then (
        (Option.bind (((List.map (fun (b_12 : UInt8) => (((UInt8.toNat b_12) : Nat) : Int)) s))[(Int.toNat t8_19)]?) fun y_23 => (
          (Option.bind (((List.map (fun (b_12 : UInt8) => (((UInt8.toNat b_12) : Nat) : Int)) s))[(Int.toNat t8_19)]?) fun y_24 => (
            (Option.bind (
              (bif (decide (y_24 < (97 : Int))) then (
                (bif (decide (y_24 < (48 : Int))) then (
                  (bif (y_24 != (45 : Int)) then (
                    some (y_24 != (46 : Int))
                  ) else (
                    some false
                  ))
                ) else (
                  (bif (decide ((57 : Int) < y_24)) then (
                    (bif (y_24 != (45 : Int)) then (
                      some (y_24 != (46 : Int))
                    ) else (
                      some false
                    ))
                  ) else (
                    some false
                  ))
                ))
              ) else (
                (bif (decide ((122 : Int) < y_24)) then (
                  (bif (decide (y_24 < (48 : Int))) then (
                    (bif (y_24 != (45 : Int)) then (
                      some (y_24 != (46 : Int))
                    ) else (
                      some false
                    ))
                  ) else (
                    (bif (decide ((57 : Int) < y_24)) then (
                      (bif (y_24 != (45 : Int)) then (
                        some (y_24 != (46 : Int))
                      ) else (
                        some false
                      ))
                    ) else (
                      some false
                    ))
                  ))
                ) else (
                  some false
                ))
              ))
            ) fun t33_25 => (
              (bif t33_25 then (
                some (Sum.inl false)
              ) else (
                (jobs_Named_l0 F s n_18 (IntKind.wrap IntKind.i64 (t8_19 + (1 : Int))))
              ))
            ))
          ))
        ))
      ) else none)
    ) else (
      some (Sum.inr ())
    ))
def jobs_Named (F : Nat) (s : (List UInt8)) : Option Bool :=
  (bif decide ((List.length s) ≤ LIM) then (
    (Option.bind (
      (jobs_Named_l0 F s F (0 : Int))
    ) fun o4 => Sum.elim (fun r => some r) (fun _ => (
      (bif (decide ((1 : Int) ≤ (((List.length s) : Nat) : Int))) then (
        some (decide ((((List.length s) : Nat) : Int) ≤ (16 : Int)))
      ) else (
        some false
      ))
    )) o4)
  ) else none)

def atlas_covers_l0 (F : Nat) (spans : (List api_Span)) : Nat → Int → Option (((Bool) ⊕ Unit))
  | 0, _ => none
  | n_29 + 1, t36_30 =>
    (bif (decide (t36_30 < (((List.length (@cut (@List AV) none (some (Operand.tmp 33)) (List.map api_Span.c spans) 0 (Int.toNat (IntKind.wrap IntKind.i64 ((((List.length spans) : Nat) : Int) - (1 : Int)))))) : Nat) : Int))) then (
      (bif decide ((0 : Int) ≤ t36_30) then (
        (Option.bind (((List.take (Int.toNat (IntKind.wrap IntKind.i64 ((((List.length (List.map api_Span.c spans)) : Nat) : Int) - (1 : Int)))) spans))[(Int.toNat t36_30)]?) fun y_35 => (
          (Option.bind (
            (Option.bind (jobs_Named F y_35.To) fun y_39 => (
              (bif (!y_39) then (
                some true
              ) else (
                (bif ((@Op.bytesLess y_35.To y_35.From) || (y_35.To == y_35.From)) then (
                  some true
                ) else (
                  (bif decide ((0 : Int) ≤ (IntKind.wrap IntKind.i64 (t36_30 + (1 : Int)))) then (
                    (Option.bind ((spans)[(Int.toNat (IntKind.wrap IntKind.i64 (t36_30 + (1 : Int))))]?) fun y_40 => (
                      some (!(y_40.From == y_35.To))
                    ))
                  ) else none)
                ))
              ))
            ))
          ) fun t62_38 => (
            (bif t62_38 then (
              some (Sum.inl false)
            ) else (
              (atlas_covers_l0 F spans n_29 (IntKind.wrap IntKind.i64 (t36_30 + (1 : Int))))
            ))
          ))
        ))
      ) else none)
    ) else (
      some (Sum.inr ())
    ))
def atlas_covers (F : Nat) (spans : (List api_Span)) : Option Bool :=
  (Option.bind (
    (bif (decide ((((List.length spans) : Nat) : Int) < (1 : Int))) then (
      some true
    ) else (
      (bif (decide ((16 : Int) < (((List.length spans) : Nat) : Int))) then (
        some true
      ) else (
        (Option.bind ((spans)[(Int.toNat (0 : Int))]?) fun y_3 => (
          (bif (!(y_3.From == ([] : List UInt8))) then (
            some true
          ) else (
            (bif decide ((0 : Int) ≤ (IntKind.wrap IntKind.i64 ((((List.length spans) : Nat) : Int) - (1 : Int)))) then (
              (Option.bind ((spans)[(Int.toNat (IntKind.wrap IntKind.i64 ((((List.length (List.map api_Span.c spans)) : Nat) : Int) - (1 : Int))))]?) fun y_4 => (
                some (!(y_4.To == ([] : List UInt8)))
              ))
            ) else none)
          ))
        ))
      ))
    ))
  ) fun t29_2 => (
    (bif t29_2 then (
      some false
    ) else (
      (bif decide ((0 : Int) ≤ (IntKind.wrap IntKind.i64 ((((List.length spans) : Nat) : Int) - (1 : Int)))) then (
        (bif decide (0 ≤ (Int.toNat (IntKind.wrap IntKind.i64 ((((List.length spans) : Nat) : Int) - (1 : Int))))) then (
          (bif decide ((Int.toNat (IntKind.wrap IntKind.i64 ((((List.length spans) : Nat) : Int) - (1 : Int)))) ≤ (List.length spans)) then (
            (Option.bind (
              (atlas_covers_l0 F spans F (0 : Int))
            ) fun o5 => Sum.elim (fun r => some r) (fun _ => (
              some true
            )) o5)
          ) else none)
        ) else none)
      ) else none)
    ))
  ))


def atlas_place_1 (F : Nat) (s : api_Span) (a1 : Int) : Option Bool :=
  some (s.Shard == a1)

def slices_IndexFunc___api_Span_api_Span__l0 (F : Nat) (s : (List api_Span)) (f_0 : Int) : Nat → Int → Option (((Int) ⊕ Unit))
  | 0, _ => none
  | n_12 + 1, t8_13 =>
    (bif (decide (t8_13 < (((List.length s) : Nat) : Int))) then (
      (bif decide ((0 : Int) ≤ t8_13) then (
        (Option.bind ((s)[(Int.toNat t8_13)]?) fun y_16 => (
          (Option.bind (atlas_place_1 F y_16 f_0) fun y_17 => (
            (bif y_17 then (
              some (Sum.inl t8_13)
            ) else (
              (slices_IndexFunc___api_Span_api_Span__l0 F s f_0 n_12 (IntKind.wrap IntKind.i64 (t8_13 + (1 : Int))))
            ))
          ))
        ))
      ) else none)
    ) else (
      some (Sum.inr ())
    ))
def slices_IndexFunc___api_Span_api_Span_ (F : Nat) (s : (List api_Span)) (f_0 : Int) : Option Int :=
  (Option.bind (
    (slices_IndexFunc___api_Span_api_Span__l0 F s f_0 F (0 : Int))
  ) fun o0 => Sum.elim (fun r => some r) (fun _ => (
    some (@Neg.neg Int Int.instNegInt (1 : Int))
  )) o0)


def atlas_place (F : Nat) (a : api_Atlas) (shard : Int) : Option Int :=
  (Option.bind (slices_IndexFunc___api_Span_api_Span_ F a.Spans shard) fun y_0 => (
    some y_0
  ))


def atlas_moving (F : Nat) (a : api_Atlas) (s : api_Span) (p : api_Plan) : Option Bool :=
  (Option.bind (
    (bif (p.Group == p.Past) then (
      some true
    ) else (
      (bif (decide ((if (p.Past < p.Group) then p.Past else p.Group) < (1 : Int))) then (
        some true
      ) else (
        (bif (decide (a.Groups < (if (p.Past > p.Group) then p.Past else p.Group))) then (
          some true
        ) else (
          (bif (p.Other != (0 : Int)) then (
            some true
          ) else (
            some (!(p.Key == ([] : List UInt8)))
          ))
        ))
      ))
    ))
  ) fun t39_0 => (
    (bif t39_0 then (
      some false
    ) else (
      (bif (p.Phase == (1 : Int)) then (
        (bif (s.Group == p.Past) then (
          some (s.Epoch == p.Epoch)
        ) else (
          some false
        ))
      ) else (
        (Option.bind (
          (bif (p.Phase == (2 : Int)) then (
            some (p.Phase == (2 : Int))
          ) else (
            some (p.Phase == (3 : Int))
          ))
        ) fun t56_2 => (
          (bif t56_2 then (
            (bif (s.Group == p.Group) then (
              some ((IntKind.wrap IntKind.i64 (s.Epoch - (1 : Int))) == p.Epoch)
            ) else (
              some false
            ))
          ) else (
            (bif (p.Phase == (9 : Int)) then (
              (bif (s.Group == p.Past) then (
                some ((IntKind.wrap IntKind.i64 (s.Epoch - (2 : Int))) == p.Epoch)
              ) else (
                some false
              ))
            ) else (
              some false
            ))
          ))
        ))
      ))
    ))
  ))


def atlas_inside (F : Nat) (s : api_Span) (key : (List UInt8)) : Option Bool :=
  (Option.bind (jobs_Named F key) fun y_0 => (
    (bif y_0 then (
      (bif (!((@Op.bytesLess key s.From) || (key == s.From))) then (
        (bif (s.To == ([] : List UInt8)) then (
          some true
        ) else (
          some (@Op.bytesLess key s.To)
        ))
      ) else (
        some false
      ))
    ) else (
      some false
    ))
  ))


def atlas_planned (F : Nat) (a : api_Atlas) : Option Bool :=
  (bif ((a.Plan.Kind == (0 : Int)) && ((a.Plan.Phase == (0 : Int)) && ((a.Plan.Shard == (0 : Int)) && ((a.Plan.Other == (0 : Int)) && ((a.Plan.Group == (0 : Int)) && ((a.Plan.Past == (0 : Int)) && ((a.Plan.Epoch == (0 : Int)) && ((a.Plan.Key == ([] : List UInt8)) && true)))))))) then (
    some true
  ) else (
    (Option.bind (atlas_place F a a.Plan.Shard) fun y_0 => (
      (Option.bind (
        (bif (decide (y_0 < (0 : Int))) then (
          some true
        ) else (
          (bif (decide (a.Plan.Epoch < (1 : Int))) then (
            some true
          ) else (
            some (decide ((1099511627774 : Int) < a.Plan.Epoch))
          ))
        ))
      ) fun t26_1 => (
        (bif t26_1 then (
          some false
        ) else (
          (bif decide ((0 : Int) ≤ y_0) then (
            (Option.bind ((a.Spans)[(Int.toNat y_0)]?) fun y_2 => (
              (bif (a.Plan.Kind == (1 : Int)) then (
                (Option.bind (atlas_moving F a y_2 a.Plan) fun y_3 => (
                  some y_3
                ))
              ) else (
                (Option.bind (
                  (bif (a.Plan.Past != (0 : Int)) then (
                    some true
                  ) else (
                    (bif (y_2.Group != a.Plan.Group) then (
                      some true
                    ) else (
                      (bif (a.Plan.Phase != (1 : Int)) then (
                        (bif (a.Plan.Phase != (9 : Int)) then (
                          some true
                        ) else (
                          some ((IntKind.wrap IntKind.i64 (y_2.Epoch - (2 : Int))) != a.Plan.Epoch)
                        ))
                      ) else (
                        (bif (y_2.Epoch != a.Plan.Epoch) then (
                          (bif (a.Plan.Phase != (9 : Int)) then (
                            some true
                          ) else (
                            none
                          ))
                        ) else (
                          some false
                        ))
                      ))
                    ))
                  ))
                ) fun t73_4 => (
                  (bif t73_4 then (
                    some false
                  ) else (
                    (bif (a.Plan.Kind == (2 : Int)) then (
                      (bif (a.Plan.Other == a.Last) then (
                        (Option.bind (atlas_place F a a.Plan.Other) fun y_10 => (
                          (bif (decide (y_10 < (0 : Int))) then (
                            (Option.bind (atlas_inside F y_2 a.Plan.Key) fun y_11 => (
                              (bif y_11 then (
                                some (decide ((((List.length (List.map api_Span.c a.Spans)) : Nat) : Int) < (16 : Int)))
                              ) else (
                                some false
                              ))
                            ))
                          ) else (
                            some false
                          ))
                        ))
                      ) else (
                        some false
                      ))
                    ) else (
                      (bif (a.Plan.Kind == (3 : Int)) then (
                        (bif (a.Plan.Key == ([] : List UInt8)) then (
                          (bif (decide ((IntKind.wrap IntKind.i64 (y_0 + (1 : Int))) < (((List.length a.Spans) : Nat) : Int))) then (
                            (bif decide ((0 : Int) ≤ (IntKind.wrap IntKind.i64 (y_0 + (1 : Int)))) then (
                              (Option.bind ((a.Spans)[(Int.toNat (IntKind.wrap IntKind.i64 (y_0 + (1 : Int))))]?) fun y_12 => (
                                (bif (y_12.Shard == a.Plan.Other) then (
                                  (bif decide ((0 : Int) ≤ (IntKind.wrap IntKind.i64 (y_0 + (1 : Int)))) then (
                                    (Option.bind ((a.Spans)[(Int.toNat (IntKind.wrap IntKind.i64 (y_0 + (1 : Int))))]?) fun y_13 => (
                                      (bif (y_13.Group == y_2.Group) then (
                                        (bif decide ((0 : Int) ≤ (IntKind.wrap IntKind.i64 (y_0 + (1 : Int)))) then (
                                          (Option.bind ((a.Spans)[(Int.toNat (IntKind.wrap IntKind.i64 (y_0 + (1 : Int))))]?) fun y_14 => (
                                            some (decide (y_14.Epoch ≤ (1099511627774 : Int)))
                                          ))
                                        ) else none)
                                      ) else (
                                        some false
                                      ))
                                    ))
                                  ) else none)
                                ) else (
                                  some false
                                ))
                              ))
                            ) else none)
                          ) else (
                            some false
                          ))
                        ) else (
                          some false
                        ))
                      ) else (
                        some false
                      ))
                    ))
                  ))
                ))
              ))
            ))
          ) else none)
        ))
      ))
    ))
  ))

def atlas_Check_l0 (F : Nat) (a : api_Atlas) : Nat → Int → Option (((Bool) ⊕ Unit))
  | 0, _ => none
  | n_21 + 1, t27_22 =>
    (bif (decide (t27_22 < (((List.length a.Spans) : Nat) : Int))) then (
      (bif decide ((0 : Int) ≤ t27_22) then (
        (Option.bind ((a.Spans)[(Int.toNat t27_22)]?) fun y_26 => (
          (Option.bind (
            (bif (decide (y_26.Shard < (1 : Int))) then (
              some true
            ) else (
              (bif (decide (a.Last < y_26.Shard)) then (
                some true
              ) else (
                (Option.bind (atlas_place F a y_26.Shard) fun y_29 => (
                  (bif (y_29 != t27_22) then (
                    some true
                  ) else (
                    (bif (decide (y_26.Epoch < (1 : Int))) then (
                      some true
                    ) else (
                      (bif (decide ((1099511627776 : Int) < y_26.Epoch)) then (
                        some true
                      ) else (
                        (bif (decide (y_26.Group < (1 : Int))) then (
                          some true
                        ) else (
                          some (decide (a.Groups < y_26.Group))
                        ))
                      ))
                    ))
                  ))
                ))
              ))
            ))
          ) fun t71_28 => (
            (bif t71_28 then (
              some (Sum.inl false)
            ) else (
              (atlas_Check_l0 F a n_21 (IntKind.wrap IntKind.i64 (t27_22 + (1 : Int))))
            ))
          ))
        ))
      ) else none)
    ) else (
      some (Sum.inr ())
    ))
def atlas_Check (F : Nat) (a : api_Atlas) : Option Bool :=
  (Option.bind (
    (bif (decide (a.Groups < (1 : Int))) then (
      some true
    ) else (
      (bif (decide ((8 : Int) < a.Groups)) then (
        some true
      ) else (
        (bif (decide ((1099511627776 : Int) < a.Last)) then (
          some true
        ) else (
          (Option.bind (atlas_covers F a.Spans) fun y_2 => (
            some (!y_2)
          ))
        ))
      ))
    ))
  ) fun t23_1 => (
    (bif t23_1 then (
      some false
    ) else (
      (Option.bind (
        (atlas_Check_l0 F a F (0 : Int))
      ) fun o5 => Sum.elim (fun r => some r) (fun _ => (
        (Option.bind (atlas_planned F a) fun y_30 => (
          some y_30
        ))
      )) o5)
    ))
  ))


def atlas_New (F : Nat) (groups : Int) : Option (api_Atlas × Int) :=
  (Option.bind (atlas_Check F (api_Atlas.mk groups (1 : Int) ((api_Span.mk ([] : List UInt8) ([] : List UInt8) (1 : Int) (1 : Int) (1 : Int)) :: []) (api_Plan.mk (0 : Int) (0 : Int) (0 : Int) (0 : Int) (0 : Int) (0 : Int) (0 : Int) ([] : List UInt8)))) fun y_0 => (
    (bif (!y_0) then (
      some ((api_Atlas.mk (0 : Int) (0 : Int) [] (api_Plan.mk (0 : Int) (0 : Int) (0 : Int) (0 : Int) (0 : Int) (0 : Int) (0 : Int) ([] : List UInt8))), (1 : Int))
    ) else (
      some ((api_Atlas.mk groups (1 : Int) ((api_Span.mk ([] : List UInt8) ([] : List UInt8) (1 : Int) (1 : Int) (1 : Int)) :: []) (api_Plan.mk (0 : Int) (0 : Int) (0 : Int) (0 : Int) (0 : Int) (0 : Int) (0 : Int) ([] : List UInt8))), (0 : Int))
    ))
  ))

def slices_Clone___api_Span_api_Span_ (F : Nat) (s : List api_Span) : Option (List api_Span) := bif decide (List.length s ≤ LIM) then some s else none


def atlas_copied (F : Nat) (a : api_Atlas) : Option api_Atlas :=
  (Option.bind (slices_Clone___api_Span_api_Span_ F a.Spans) fun y_0 => (
    some (api_Atlas.mk a.Groups a.Last y_0 a.Plan)
  ))


def atlas_plan (F : Nat) (a : api_Atlas) (i : Int) (asked : api_Plan) : Option (api_Plan × Int) :=
  (bif decide ((0 : Int) ≤ i) then (
    (Option.bind ((a.Spans)[(Int.toNat i)]?) fun y_0 => (
      (Option.bind (
        (bif (decide ((1099511627774 : Int) < y_0.Epoch)) then (
          some true
        ) else (
          (bif (asked.Kind == (3 : Int)) then (
            (bif (decide ((IntKind.wrap IntKind.i64 (i + (1 : Int))) < (((List.length a.Spans) : Nat) : Int))) then (
              (bif decide ((0 : Int) ≤ (IntKind.wrap IntKind.i64 (i + (1 : Int)))) then (
                (Option.bind ((a.Spans)[(Int.toNat (IntKind.wrap IntKind.i64 (i + (1 : Int))))]?) fun y_3 => (
                  some (decide ((1099511627774 : Int) < y_3.Epoch))
                ))
              ) else none)
            ) else (
              some false
            ))
          ) else (
            some false
          ))
        ))
      ) fun t50_2 => (
        (bif t50_2 then (
          some ((api_Plan.mk asked.Kind (1 : Int) y_0.Shard (0 : Int) y_0.Group (0 : Int) y_0.Epoch ([] : List UInt8)), (1 : Int))
        ) else (
          (Option.bind (
            (bif (asked.Kind == (1 : Int)) then (
              (Option.bind (
                (bif (decide (asked.Group < (1 : Int))) then (
                  some true
                ) else (
                  (bif (decide (a.Groups < asked.Group)) then (
                    some true
                  ) else (
                    some (asked.Group == y_0.Group)
                  ))
                ))
              ) fun t72_14 => (
                (bif t72_14 then (
                  some (Sum.inl ((api_Plan.mk asked.Kind (1 : Int) y_0.Shard (0 : Int) y_0.Group (0 : Int) y_0.Epoch ([] : List UInt8)), (1 : Int)))
                ) else (
                  some (Sum.inr ((0 : Int), asked.Group, y_0.Group, ([] : List UInt8)))
                ))
              ))
            ) else (
              (bif (asked.Kind == (2 : Int)) then (
                (Option.bind (atlas_inside F y_0 asked.Key) fun y_15 => (
                  (bif (!y_15) then (
                    some (Sum.inl ((api_Plan.mk asked.Kind (1 : Int) y_0.Shard (0 : Int) y_0.Group (0 : Int) y_0.Epoch ([] : List UInt8)), (170 : Int)))
                  ) else (
                    (Option.bind (
                      (bif (decide ((16 : Int) ≤ (((List.length a.Spans) : Nat) : Int))) then (
                        some true
                      ) else (
                        some (decide ((1099511627776 : Int) ≤ a.Last))
                      ))
                    ) fun t96_16 => (
                      (bif t96_16 then (
                        some (Sum.inl ((api_Plan.mk asked.Kind (1 : Int) y_0.Shard (0 : Int) y_0.Group (0 : Int) y_0.Epoch ([] : List UInt8)), (3 : Int)))
                      ) else (
                        some (Sum.inr ((IntKind.wrap IntKind.i64 (a.Last + (1 : Int))), y_0.Group, (0 : Int), asked.Key))
                      ))
                    ))
                  ))
                ))
              ) else (
                (bif (asked.Kind == (3 : Int)) then (
                  (Option.bind (
                    (bif ((IntKind.wrap IntKind.i64 (i + (1 : Int))) == (((List.length a.Spans) : Nat) : Int)) then (
                      some true
                    ) else (
                      (bif decide ((0 : Int) ≤ (IntKind.wrap IntKind.i64 (i + (1 : Int)))) then (
                        (Option.bind ((a.Spans)[(Int.toNat (IntKind.wrap IntKind.i64 (i + (1 : Int))))]?) fun y_19 => (
                          some (y_19.Group != y_0.Group)
                        ))
                      ) else none)
                    ))
                  ) fun t122_18 => (
                    (bif t122_18 then (
                      some (Sum.inl ((api_Plan.mk asked.Kind (1 : Int) y_0.Shard (0 : Int) y_0.Group (0 : Int) y_0.Epoch ([] : List UInt8)), (170 : Int)))
                    ) else (
                      (bif decide ((0 : Int) ≤ (IntKind.wrap IntKind.i64 (i + (1 : Int)))) then (
                        (Option.bind ((a.Spans)[(Int.toNat (IntKind.wrap IntKind.i64 (i + (1 : Int))))]?) fun y_20 => (
                          some (Sum.inr (y_20.Shard, y_0.Group, (0 : Int), ([] : List UInt8)))
                        ))
                      ) else none)
                    ))
                  ))
                ) else (
                  some (Sum.inr ((0 : Int), y_0.Group, (0 : Int), ([] : List UInt8)))
                ))
              ))
            ))
          ) fun o4 => Sum.elim (fun r => some r) (fun (c_10, c_11, c_12, c_13) => (
            some ((api_Plan.mk asked.Kind (1 : Int) y_0.Shard c_10 c_11 c_12 y_0.Epoch c_13), (0 : Int))
          )) o4)
        ))
      ))
    ))
  ) else none)


def atlas_Begin (F : Nat) (a : api_Atlas) (asked : api_Plan) : Option (api_Atlas × Int) :=
  (Option.bind (atlas_Check F a) fun y_0 => (
    (bif (!y_0) then (
      some ((api_Atlas.mk (0 : Int) (0 : Int) [] (api_Plan.mk (0 : Int) (0 : Int) (0 : Int) (0 : Int) (0 : Int) (0 : Int) (0 : Int) ([] : List UInt8))), (4 : Int))
    ) else (
      (Option.bind (atlas_copied F a) fun y_1 => (
        (Option.bind (atlas_place F y_1 asked.Shard) fun y_2 => (
          (bif (y_1.Plan.Kind != (0 : Int)) then (
            some (y_1, (180 : Int))
          ) else (
            (Option.bind (
              (bif (decide (asked.Kind < (1 : Int))) then (
                some true
              ) else (
                some (decide ((3 : Int) < asked.Kind))
              ))
            ) fun t25_4 => (
              (bif t25_4 then (
                some (y_1, (1 : Int))
              ) else (
                (bif (decide (y_2 < (0 : Int))) then (
                  some (y_1, (172 : Int))
                ) else (
                  (Option.bind (atlas_plan F y_1 y_2 asked) fun y_5 => (
                    (bif (y_5.2 != (0 : Int)) then (
                      some (y_1, y_5.2)
                    ) else (
                      (Option.bind (
                        (bif (y_5.1.Kind == (2 : Int)) then (
                          some (IntKind.wrap IntKind.i64 (y_1.Last + (1 : Int)))
                        ) else (
                          some y_1.Last
                        ))
                      ) fun c_6 => (
                        some ((api_Atlas.mk y_1.Groups c_6 y_1.Spans y_5.1), (0 : Int))
                      ))
                    ))
                  ))
                ))
              ))
            ))
          ))
        ))
      ))
    ))
  ))


def mover_has (F : Nat) (p : api_Plan) (have_ : api_Shard) : Option Bool :=
  (bif (have_.Id == p.Shard) then (
    some (have_.Epoch == p.Epoch)
  ) else (
    some false
  ))


def mover_thawing (F : Nat) (p : api_Plan) (have_ : api_Shard) : Option (Int × api_Order) :=
  (Option.bind (
    (bif (p.Kind == (1 : Int)) then (
      some p.Past
    ) else (
      some p.Group
    ))
  ) fun group_0 => (
    (Option.bind (mover_has F p have_) fun y_3 => (
      (bif (!y_3) then (
        some (group_0, (api_Order.mk (2 : Int) p.Shard p.Epoch (0 : Int) (0 : Int) ([] : List UInt8) (api_Cmd.mk (0 : Int) (0 : Int) (0 : Int) ([] : List UInt8) ([] : List UInt8) ([] : List UInt8) ([] : List UInt8) (0 : Int)) (api_Shard.mk (0 : Int) (0 : Int) (0 : Int) ([] : List UInt8) ([] : List UInt8) [] [])))
      ) else (
        (Option.bind (
          (bif (p.Kind == (1 : Int)) then (
            some (have_.State != (4 : Int))
          ) else (
            some false
          ))
        ) fun t25_4 => (
          (bif t25_4 then (
            some (p.Group, (api_Order.mk (6 : Int) p.Shard (IntKind.wrap IntKind.i64 (p.Epoch + (1 : Int))) (0 : Int) (0 : Int) ([] : List UInt8) (api_Cmd.mk (0 : Int) (0 : Int) (0 : Int) ([] : List UInt8) ([] : List UInt8) ([] : List UInt8) ([] : List UInt8) (0 : Int)) (api_Shard.mk (0 : Int) (0 : Int) (0 : Int) ([] : List UInt8) ([] : List UInt8) [] [])))
          ) else (
            some (group_0, (api_Order.mk (3 : Int) p.Shard p.Epoch (0 : Int) (IntKind.wrap IntKind.i64 (p.Epoch + (2 : Int))) ([] : List UInt8) (api_Cmd.mk (0 : Int) (0 : Int) (0 : Int) ([] : List UInt8) ([] : List UInt8) ([] : List UInt8) ([] : List UInt8) (0 : Int)) (api_Shard.mk (0 : Int) (0 : Int) (0 : Int) ([] : List UInt8) ([] : List UInt8) [] [])))
          ))
        ))
      ))
    ))
  ))

def slices_Clone___api_Job_api_Job_ (F : Nat) (s : List api_Job) : Option (List api_Job) := bif decide (List.length s ≤ LIM) then some s else none

def slices_Clone___api_Seen_api_Seen_ (F : Nat) (s : List api_Seen) : Option (List api_Seen) := bif decide (List.length s ≤ LIM) then some s else none

def mover_moving_l0 (F : Nat) (y_29 : (List api_Seen)) : Nat → Int → (List api_Seen) → Option ((List api_Seen))
  | 0, _, _ => none
  | n_51 + 1, t44_52, l_53 =>
    (bif (decide (t44_52 < (((List.length y_29) : Nat) : Int))) then (
      (bif decide ((0 : Int) ≤ t44_52) then (
        (Option.bind ((l_53)[(Int.toNat t44_52)]?) fun y_59 => (
          (Option.bind ((l_53)[(Int.toNat t44_52)]?) fun y_60 => (
            (Option.bind (slices_Clone___api_Job_api_Job_ F y_60.Result.Jobs) fun y_61 => (
              (bif decide ((0 : Int) ≤ t44_52) then (
                (Option.bind ((l_53)[(Int.toNat t44_52)]?) fun y_62 => (
                  (Option.bind ((l_53)[(Int.toNat t44_52)]?) fun y_63 => (
                    (mover_moving_l0 F y_29 n_51 (IntKind.wrap IntKind.i64 (t44_52 + (1 : Int))) (List.set l_53 (Int.toNat t44_52) (api_Seen.mk y_63.Client y_63.Seq (api_Result.mk y_63.Result.Err y_63.Result.Time y_61))))
                  ))
                ))
              ) else none)
            ))
          ))
        ))
      ) else none)
    ) else (
      some l_53
    ))
def mover_moving (F : Nat) (p : api_Plan) (have_ : api_Shard) : Option (Int × api_Order) :=
  (Option.bind (
    (Option.bind (
      (bif (p.Phase == (1 : Int)) then (
        (Option.bind (mover_has F p have_) fun y_27 => (
          some (!y_27)
        ))
      ) else (
        some false
      ))
    ) fun t7_26 => (
      (bif t7_26 then (
        some (Sum.inl (p.Past, (api_Order.mk (2 : Int) p.Shard p.Epoch (0 : Int) (0 : Int) ([] : List UInt8) (api_Cmd.mk (0 : Int) (0 : Int) (0 : Int) ([] : List UInt8) ([] : List UInt8) ([] : List UInt8) ([] : List UInt8) (0 : Int)) (api_Shard.mk (0 : Int) (0 : Int) (0 : Int) ([] : List UInt8) ([] : List UInt8) [] []))))
      ) else (
        (bif (p.Phase == (1 : Int)) then (
          (Option.bind (slices_Clone___api_Job_api_Job_ F have_.Jobs) fun y_28 => (
            (Option.bind (slices_Clone___api_Seen_api_Seen_ F have_.Seen) fun y_29 => (
              (Option.bind (
                (mover_moving_l0 F y_29 F (0 : Int) y_29)
              ) fun l_40 => (
                some (Sum.inl (p.Group, (api_Order.mk (4 : Int) (0 : Int) (0 : Int) (0 : Int) (0 : Int) ([] : List UInt8) (api_Cmd.mk (0 : Int) (0 : Int) (0 : Int) ([] : List UInt8) ([] : List UInt8) ([] : List UInt8) ([] : List UInt8) (0 : Int)) (api_Shard.mk have_.Id (IntKind.wrap IntKind.i64 (p.Epoch + (1 : Int))) (3 : Int) have_.From have_.To y_28 l_40))))
              ))
            ))
          ))
        ) else (
          (bif (p.Phase == (2 : Int)) then (
            some (Sum.inl (p.Group, (api_Order.mk (5 : Int) p.Shard (IntKind.wrap IntKind.i64 (p.Epoch + (1 : Int))) (0 : Int) (0 : Int) ([] : List UInt8) (api_Cmd.mk (0 : Int) (0 : Int) (0 : Int) ([] : List UInt8) ([] : List UInt8) ([] : List UInt8) ([] : List UInt8) (0 : Int)) (api_Shard.mk (0 : Int) (0 : Int) (0 : Int) ([] : List UInt8) ([] : List UInt8) [] []))))
          ) else (
            some (Sum.inr ())
          ))
        ))
      ))
    ))
  ) fun o2 => Sum.elim (fun r => some r) (fun _ => (
    some (p.Past, (api_Order.mk (6 : Int) p.Shard p.Epoch (0 : Int) (0 : Int) ([] : List UInt8) (api_Cmd.mk (0 : Int) (0 : Int) (0 : Int) ([] : List UInt8) ([] : List UInt8) ([] : List UInt8) ([] : List UInt8) (0 : Int)) (api_Shard.mk (0 : Int) (0 : Int) (0 : Int) ([] : List UInt8) ([] : List UInt8) [] [])))
  )) o2)


def mover_Next_1 (F : Nat) (s : api_Span) (a1 : api_Plan) : Option Bool :=
  some (s.Shard == a1.Other)

def slices_IndexFunc___api_Span_api_Span__i1_l0 (F : Nat) (s : (List api_Span)) (f_0 : api_Plan) : Nat → Int → Option (((Int) ⊕ Unit))
  | 0, _ => none
  | n_12 + 1, t8_13 =>
    (bif (decide (t8_13 < (((List.length s) : Nat) : Int))) then (
      (bif decide ((0 : Int) ≤ t8_13) then (
        (Option.bind ((s)[(Int.toNat t8_13)]?) fun y_16 => (
          (Option.bind (mover_Next_1 F y_16 f_0) fun y_17 => (
            (bif y_17 then (
              some (Sum.inl t8_13)
            ) else (
              (slices_IndexFunc___api_Span_api_Span__i1_l0 F s f_0 n_12 (IntKind.wrap IntKind.i64 (t8_13 + (1 : Int))))
            ))
          ))
        ))
      ) else none)
    ) else (
      some (Sum.inr ())
    ))
def slices_IndexFunc___api_Span_api_Span__i1 (F : Nat) (s : (List api_Span)) (f_0 : api_Plan) : Option Int :=
  (Option.bind (
    (slices_IndexFunc___api_Span_api_Span__i1_l0 F s f_0 F (0 : Int))
  ) fun o0 => Sum.elim (fun r => some r) (fun _ => (
    some (@Neg.neg Int Int.instNegInt (1 : Int))
  )) o0)


def mover_Next (F : Nat) (a : api_Atlas) (have_ : api_Shard) : Option (Int × api_Order × Bool) :=
  (Option.bind (
    (Option.bind (atlas_Check F a) fun y_2 => (
      (bif (!y_2) then (
        some true
      ) else (
        some (a.Plan.Kind == (0 : Int))
      ))
    ))
  ) fun t20_1 => (
    (bif t20_1 then (
      some ((0 : Int), (api_Order.mk (0 : Int) (0 : Int) (0 : Int) (0 : Int) (0 : Int) ([] : List UInt8) (api_Cmd.mk (0 : Int) (0 : Int) (0 : Int) ([] : List UInt8) ([] : List UInt8) ([] : List UInt8) ([] : List UInt8) (0 : Int)) (api_Shard.mk (0 : Int) (0 : Int) (0 : Int) ([] : List UInt8) ([] : List UInt8) [] [])), false)
    ) else (
      (bif (a.Plan.Phase == (9 : Int)) then (
        (Option.bind (mover_thawing F a.Plan have_) fun y_11 => (
          some (y_11.1, y_11.2, true)
        ))
      ) else (
        (bif (a.Plan.Kind == (1 : Int)) then (
          (Option.bind (mover_moving F a.Plan have_) fun y_15 => (
            some (y_15.1, y_15.2, true)
          ))
        ) else (
          (Option.bind (
            (bif (a.Plan.Kind == (2 : Int)) then (
              some ((7 : Int), (IntKind.wrap IntKind.i64 (a.Plan.Epoch + (1 : Int))), a.Plan.Key, (0 : Int))
            ) else (
              (Option.bind (slices_IndexFunc___api_Span_api_Span__i1 F a.Spans a.Plan) fun y_22 => (
                (bif decide ((0 : Int) ≤ y_22) then (
                  (Option.bind ((a.Spans)[(Int.toNat y_22)]?) fun y_23 => (
                    some ((8 : Int), (IntKind.wrap IntKind.i64 ((if (y_23.Epoch > a.Plan.Epoch) then y_23.Epoch else a.Plan.Epoch) + (1 : Int))), ([] : List UInt8), y_23.Epoch)
                  ))
                ) else none)
              ))
            ))
          ) fun (c_18, c_19, c_20, c_21) => (
            some (a.Plan.Group, (api_Order.mk c_18 a.Plan.Shard a.Plan.Epoch a.Plan.Other c_19 c_20 (api_Cmd.mk (0 : Int) (0 : Int) (0 : Int) ([] : List UInt8) ([] : List UInt8) ([] : List UInt8) ([] : List UInt8) (0 : Int)) (api_Shard.mk (0 : Int) c_21 (0 : Int) ([] : List UInt8) ([] : List UInt8) [] [])), true)
          ))
        ))
      ))
    ))
  ))


def mover_Heard (F : Nat) (a : api_Atlas) (have_ : api_Shard) (r_ : api_Result) (s : api_Shard) : Option (api_Shard × Int) :=
  (Option.bind (mover_Next F a have_) fun y_0 => (
    (bif (!y_0.2.2) then (
      some (have_, (0 : Int))
    ) else (
      (bif decide (((List.length (((AV.int IntKind.i64 (0 : Int)), (AV.agg ((AV.int IntKind.i64 have_.Id) :: ((AV.int IntKind.i64 have_.Epoch) :: ((AV.int IntKind.i64 have_.State) :: ((AV.str have_.From) :: ((AV.str have_.To) :: ((AV.sl (List.map api_Job.c have_.Jobs)) :: ((AV.sl (List.map api_Seen.c have_.Seen)) :: ((AV.int IntKind.i64 (1 : Int)) :: [])))))))))) :: [])) + 1) ≤ LIM) then (
        (bif decide (((List.length (((AV.int IntKind.i64 (0 : Int)), (AV.agg ((AV.int IntKind.i64 have_.Id) :: ((AV.int IntKind.i64 have_.Epoch) :: ((AV.int IntKind.i64 have_.State) :: ((AV.str have_.From) :: ((AV.str have_.To) :: ((AV.sl (List.map api_Job.c have_.Jobs)) :: ((AV.sl (List.map api_Seen.c have_.Seen)) :: ((AV.int IntKind.i64 (1 : Int)) :: [])))))))))) :: (((AV.int IntKind.i64 (3 : Int)), (AV.agg ((AV.int IntKind.i64 have_.Id) :: ((AV.int IntKind.i64 have_.Epoch) :: ((AV.int IntKind.i64 have_.State) :: ((AV.str have_.From) :: ((AV.str have_.To) :: ((AV.sl (List.map api_Job.c have_.Jobs)) :: ((AV.sl (List.map api_Seen.c have_.Seen)) :: ((AV.int IntKind.i64 (@Neg.neg Int Int.instNegInt (1 : Int))) :: [])))))))))) :: []))) + 1) ≤ LIM) then (
          (bif decide (((List.length (((AV.int IntKind.i64 (0 : Int)), (AV.agg ((AV.int IntKind.i64 have_.Id) :: ((AV.int IntKind.i64 have_.Epoch) :: ((AV.int IntKind.i64 have_.State) :: ((AV.str have_.From) :: ((AV.str have_.To) :: ((AV.sl (List.map api_Job.c have_.Jobs)) :: ((AV.sl (List.map api_Seen.c have_.Seen)) :: ((AV.int IntKind.i64 (1 : Int)) :: [])))))))))) :: (((AV.int IntKind.i64 (3 : Int)), (AV.agg ((AV.int IntKind.i64 have_.Id) :: ((AV.int IntKind.i64 have_.Epoch) :: ((AV.int IntKind.i64 have_.State) :: ((AV.str have_.From) :: ((AV.str have_.To) :: ((AV.sl (List.map api_Job.c have_.Jobs)) :: ((AV.sl (List.map api_Seen.c have_.Seen)) :: ((AV.int IntKind.i64 (@Neg.neg Int Int.instNegInt (1 : Int))) :: [])))))))))) :: (((AV.int IntKind.i64 (1 : Int)), (AV.agg ((AV.int IntKind.i64 have_.Id) :: ((AV.int IntKind.i64 have_.Epoch) :: ((AV.int IntKind.i64 have_.State) :: ((AV.str have_.From) :: ((AV.str have_.To) :: ((AV.sl (List.map api_Job.c have_.Jobs)) :: ((AV.sl (List.map api_Seen.c have_.Seen)) :: ((AV.int IntKind.i64 (@Neg.neg Int Int.instNegInt (1 : Int))) :: [])))))))))) :: [])))) + 1) ≤ LIM) then (
            (bif decide (((List.length (((AV.int IntKind.i64 (0 : Int)), (AV.agg ((AV.int IntKind.i64 have_.Id) :: ((AV.int IntKind.i64 have_.Epoch) :: ((AV.int IntKind.i64 have_.State) :: ((AV.str have_.From) :: ((AV.str have_.To) :: ((AV.sl (List.map api_Job.c have_.Jobs)) :: ((AV.sl (List.map api_Seen.c have_.Seen)) :: ((AV.int IntKind.i64 (1 : Int)) :: [])))))))))) :: (((AV.int IntKind.i64 (3 : Int)), (AV.agg ((AV.int IntKind.i64 have_.Id) :: ((AV.int IntKind.i64 have_.Epoch) :: ((AV.int IntKind.i64 have_.State) :: ((AV.str have_.From) :: ((AV.str have_.To) :: ((AV.sl (List.map api_Job.c have_.Jobs)) :: ((AV.sl (List.map api_Seen.c have_.Seen)) :: ((AV.int IntKind.i64 (@Neg.neg Int Int.instNegInt (1 : Int))) :: [])))))))))) :: (((AV.int IntKind.i64 (1 : Int)), (AV.agg ((AV.int IntKind.i64 have_.Id) :: ((AV.int IntKind.i64 have_.Epoch) :: ((AV.int IntKind.i64 have_.State) :: ((AV.str have_.From) :: ((AV.str have_.To) :: ((AV.sl (List.map api_Job.c have_.Jobs)) :: ((AV.sl (List.map api_Seen.c have_.Seen)) :: ((AV.int IntKind.i64 (@Neg.neg Int Int.instNegInt (1 : Int))) :: [])))))))))) :: (((AV.int IntKind.i64 (4 : Int)), (AV.agg ((AV.int IntKind.i64 have_.Id) :: ((AV.int IntKind.i64 have_.Epoch) :: ((AV.int IntKind.i64 have_.State) :: ((AV.str have_.From) :: ((AV.str have_.To) :: ((AV.sl (List.map api_Job.c have_.Jobs)) :: ((AV.sl (List.map api_Seen.c have_.Seen)) :: ((AV.int IntKind.i64 (@Neg.neg Int Int.instNegInt (1 : Int))) :: [])))))))))) :: []))))) + 1) ≤ LIM) then (
              (bif decide (((List.length (((AV.int IntKind.i64 (0 : Int)), (AV.agg ((AV.int IntKind.i64 have_.Id) :: ((AV.int IntKind.i64 have_.Epoch) :: ((AV.int IntKind.i64 have_.State) :: ((AV.str have_.From) :: ((AV.str have_.To) :: ((AV.sl (List.map api_Job.c have_.Jobs)) :: ((AV.sl (List.map api_Seen.c have_.Seen)) :: ((AV.int IntKind.i64 (3 : Int)) :: [])))))))))) :: [])) + 1) ≤ LIM) then (
                (bif (a.Plan.Phase == (9 : Int)) then (
                  (bif decide (((List.length (((AV.int IntKind.i64 (0 : Int)), (AV.agg ((AV.int IntKind.i64 s.Id) :: ((AV.int IntKind.i64 s.Epoch) :: ((AV.int IntKind.i64 s.State) :: ((AV.str s.From) :: ((AV.str s.To) :: ((AV.sl (List.map api_Job.c s.Jobs)) :: ((AV.sl (List.map api_Seen.c s.Seen)) :: ((AV.int IntKind.i64 (0 : Int)) :: [])))))))))) :: [])) + 1) ≤ LIM) then (
                    (bif decide (((List.length (((AV.int IntKind.i64 (0 : Int)), (AV.agg ((AV.int IntKind.i64 a.Plan.Shard) :: ((AV.int IntKind.i64 a.Plan.Epoch) :: ((AV.int IntKind.i64 (4 : Int)) :: ((AV.str ([] : List UInt8)) :: ((AV.str ([] : List UInt8)) :: (AV.esl :: (AV.esl :: ((AV.int IntKind.i64 (0 : Int)) :: [])))))))))) :: [])) + 1) ≤ LIM) then (
                      (Option.bind (
                        (bif (y_0.2.1.Kind == (7 : Int)) then (
                          some true
                        ) else (
                          some (y_0.2.1.Kind == (8 : Int))
                        ))
                      ) fun t93_1 => (
                        (bif t93_1 then (
                          (bif (y_0.2.1.Kind == (2 : Int)) then (
                            (bif (y_0.2.1.Kind == (7 : Int)) then none else (
                              (bif (y_0.2.1.Kind == y_0.2.1.Kind) then (
                                (bif (r_.Err == (0 : Int)) then (
                                  some (have_, (1 : Int))
                                ) else (
                                  some (have_, (0 : Int))
                                ))
                              ) else (
                                (bif (y_0.2.1.Kind == (3 : Int)) then none else (
                                  (bif (y_0.2.1.Kind == (4 : Int)) then none else (
                                    (bif (y_0.2.1.Kind == (5 : Int)) then none else (
                                      (bif (y_0.2.1.Kind == (6 : Int)) then none else (
                                        some (have_, (0 : Int))
                                      ))
                                    ))
                                  ))
                                ))
                              ))
                            ))
                          ) else (
                            (bif (y_0.2.1.Kind == (3 : Int)) then (
                              (bif (y_0.2.1.Kind == (7 : Int)) then none else (
                                (bif (y_0.2.1.Kind == (2 : Int)) then none else (
                                  (bif (y_0.2.1.Kind == y_0.2.1.Kind) then (
                                    (bif (r_.Err == (0 : Int)) then (
                                      some (have_, (1 : Int))
                                    ) else (
                                      some (have_, (0 : Int))
                                    ))
                                  ) else (
                                    (bif (y_0.2.1.Kind == (4 : Int)) then none else (
                                      (bif (y_0.2.1.Kind == (5 : Int)) then none else (
                                        (bif (y_0.2.1.Kind == (6 : Int)) then none else (
                                          some (have_, (0 : Int))
                                        ))
                                      ))
                                    ))
                                  ))
                                ))
                              ))
                            ) else (
                              (bif (y_0.2.1.Kind == (4 : Int)) then (
                                (bif (y_0.2.1.Kind == (7 : Int)) then none else (
                                  (bif (y_0.2.1.Kind == (2 : Int)) then none else (
                                    (bif (y_0.2.1.Kind == (3 : Int)) then none else (
                                      (bif (y_0.2.1.Kind == y_0.2.1.Kind) then (
                                        (bif (r_.Err == (0 : Int)) then (
                                          some (have_, (1 : Int))
                                        ) else (
                                          some (have_, (0 : Int))
                                        ))
                                      ) else (
                                        (bif (y_0.2.1.Kind == (5 : Int)) then none else (
                                          (bif (y_0.2.1.Kind == (6 : Int)) then none else (
                                            some (have_, (0 : Int))
                                          ))
                                        ))
                                      ))
                                    ))
                                  ))
                                ))
                              ) else (
                                (bif (y_0.2.1.Kind == (5 : Int)) then (
                                  (bif (y_0.2.1.Kind == (7 : Int)) then none else (
                                    (bif (y_0.2.1.Kind == (2 : Int)) then none else (
                                      (bif (y_0.2.1.Kind == (3 : Int)) then none else (
                                        (bif (y_0.2.1.Kind == (4 : Int)) then none else (
                                          (bif (y_0.2.1.Kind == y_0.2.1.Kind) then (
                                            (bif (r_.Err == (0 : Int)) then (
                                              some (have_, (1 : Int))
                                            ) else (
                                              some (have_, (0 : Int))
                                            ))
                                          ) else (
                                            (bif (y_0.2.1.Kind == (6 : Int)) then none else (
                                              some (have_, (0 : Int))
                                            ))
                                          ))
                                        ))
                                      ))
                                    ))
                                  ))
                                ) else (
                                  (bif (y_0.2.1.Kind == (6 : Int)) then (
                                    (bif (y_0.2.1.Kind == (7 : Int)) then none else (
                                      (bif (y_0.2.1.Kind == (2 : Int)) then none else (
                                        (bif (y_0.2.1.Kind == (3 : Int)) then none else (
                                          (bif (y_0.2.1.Kind == (4 : Int)) then none else (
                                            (bif (y_0.2.1.Kind == (5 : Int)) then none else (
                                              (bif (y_0.2.1.Kind == y_0.2.1.Kind) then (
                                                (bif (r_.Err == (0 : Int)) then (
                                                  some (have_, (1 : Int))
                                                ) else (
                                                  some (have_, (0 : Int))
                                                ))
                                              ) else (
                                                some (have_, (0 : Int))
                                              ))
                                            ))
                                          ))
                                        ))
                                      ))
                                    ))
                                  ) else (
                                    (bif (y_0.2.1.Kind == (7 : Int)) then (
                                      (bif (y_0.2.1.Kind == (2 : Int)) then none else (
                                        (bif (y_0.2.1.Kind == (3 : Int)) then none else (
                                          (bif (y_0.2.1.Kind == (4 : Int)) then none else (
                                            (bif (y_0.2.1.Kind == (5 : Int)) then none else (
                                              (bif (y_0.2.1.Kind == (6 : Int)) then none else (
                                                (bif (y_0.2.1.Kind == y_0.2.1.Kind) then (
                                                  (bif decide (((List.length (((AV.int IntKind.i64 (0 : Int)), (AV.agg ((AV.int IntKind.i64 have_.Id) :: ((AV.int IntKind.i64 have_.Epoch) :: ((AV.int IntKind.i64 have_.State) :: ((AV.str have_.From) :: ((AV.str have_.To) :: ((AV.sl (List.map api_Job.c have_.Jobs)) :: ((AV.sl (List.map api_Seen.c have_.Seen)) :: ((AV.int IntKind.i64 (1 : Int)) :: [])))))))))) :: [])) + 1) ≤ LIM) then (
                                                    (bif (y_0.2.1.Kind == (2 : Int)) then none else (
                                                      (bif (y_0.2.1.Kind == (3 : Int)) then none else (
                                                        (bif (y_0.2.1.Kind == (4 : Int)) then none else (
                                                          (bif (y_0.2.1.Kind == (5 : Int)) then none else (
                                                            (bif (y_0.2.1.Kind == (6 : Int)) then none else (
                                                              (bif (y_0.2.1.Kind == y_0.2.1.Kind) then (
                                                                (bif (r_.Err == (0 : Int)) then (
                                                                  some (have_, (1 : Int))
                                                                ) else (
                                                                  (bif (r_.Err == (3 : Int)) then (
                                                                    some ((api_Shard.mk (0 : Int) (0 : Int) (0 : Int) ([] : List UInt8) ([] : List UInt8) [] []), (@Neg.neg Int Int.instNegInt (1 : Int)))
                                                                  ) else (
                                                                    some (have_, (0 : Int))
                                                                  ))
                                                                ))
                                                              ) else (
                                                                none
                                                              ))
                                                            ))
                                                          ))
                                                        ))
                                                      ))
                                                    ))
                                                  ) else none)
                                                ) else (
                                                  none
                                                ))
                                              ))
                                            ))
                                          ))
                                        ))
                                      ))
                                    ) else (
                                      (bif (y_0.2.1.Kind == (2 : Int)) then none else (
                                        (bif (y_0.2.1.Kind == (3 : Int)) then none else (
                                          (bif (y_0.2.1.Kind == (4 : Int)) then none else (
                                            (bif (y_0.2.1.Kind == (5 : Int)) then none else (
                                              (bif (y_0.2.1.Kind == (6 : Int)) then none else (
                                                (bif (y_0.2.1.Kind == y_0.2.1.Kind) then (
                                                  (bif (r_.Err == (0 : Int)) then (
                                                    some (have_, (1 : Int))
                                                  ) else (
                                                    some (have_, (0 : Int))
                                                  ))
                                                ) else (
                                                  some (have_, (0 : Int))
                                                ))
                                              ))
                                            ))
                                          ))
                                        ))
                                      ))
                                    ))
                                  ))
                                ))
                              ))
                            ))
                          ))
                        ) else (
                          (bif (y_0.2.1.Kind == (7 : Int)) then (
                            (bif (y_0.2.1.Kind == (2 : Int)) then none else (
                              (bif (y_0.2.1.Kind == (3 : Int)) then none else (
                                (bif (y_0.2.1.Kind == (4 : Int)) then none else (
                                  (bif (y_0.2.1.Kind == (5 : Int)) then none else (
                                    (bif (y_0.2.1.Kind == (6 : Int)) then none else (
                                      none
                                    ))
                                  ))
                                ))
                              ))
                            ))
                          ) else (
                            (bif (y_0.2.1.Kind == (2 : Int)) then (
                              (bif (r_.Err == (0 : Int)) then (
                                some (s, (0 : Int))
                              ) else (
                                (bif (r_.Err == (171 : Int)) then (
                                  some ((api_Shard.mk a.Plan.Shard a.Plan.Epoch (0 : Int) ([] : List UInt8) ([] : List UInt8) [] []), (0 : Int))
                                ) else (
                                  some (have_, (0 : Int))
                                ))
                              ))
                            ) else (
                              (bif (y_0.2.1.Kind == (3 : Int)) then (
                                (bif (r_.Err == (0 : Int)) then (
                                  some ((api_Shard.mk (0 : Int) (0 : Int) (0 : Int) ([] : List UInt8) ([] : List UInt8) [] []), (9 : Int))
                                ) else (
                                  some (have_, (0 : Int))
                                ))
                              ) else (
                                (bif (y_0.2.1.Kind == (4 : Int)) then (
                                  (bif (r_.Err == (0 : Int)) then (
                                    some (have_, (1 : Int))
                                  ) else (
                                    (bif (r_.Err == (3 : Int)) then (
                                      some (have_, (@Neg.neg Int Int.instNegInt (1 : Int)))
                                    ) else (
                                      (bif (r_.Err == (1 : Int)) then (
                                        some (have_, (@Neg.neg Int Int.instNegInt (1 : Int)))
                                      ) else (
                                        (bif (r_.Err == (4 : Int)) then (
                                          some (have_, (@Neg.neg Int Int.instNegInt (1 : Int)))
                                        ) else (
                                          (bif (r_.Err == (171 : Int)) then (
                                            some (have_, (@Neg.neg Int Int.instNegInt (1 : Int)))
                                          ) else (
                                            some (have_, (0 : Int))
                                          ))
                                        ))
                                      ))
                                    ))
                                  ))
                                ) else (
                                  (bif (y_0.2.1.Kind == (5 : Int)) then (
                                    (bif (r_.Err == (0 : Int)) then (
                                      some ((api_Shard.mk (0 : Int) (0 : Int) (0 : Int) ([] : List UInt8) ([] : List UInt8) [] []), (2 : Int))
                                    ) else (
                                      some (have_, (0 : Int))
                                    ))
                                  ) else (
                                    (bif (y_0.2.1.Kind == (6 : Int)) then (
                                      (bif (r_.Err == (0 : Int)) then (
                                        some ((api_Shard.mk a.Plan.Shard a.Plan.Epoch (4 : Int) ([] : List UInt8) ([] : List UInt8) [] []), (0 : Int))
                                      ) else (
                                        (bif (r_.Err == (171 : Int)) then (
                                          some ((api_Shard.mk a.Plan.Shard a.Plan.Epoch (4 : Int) ([] : List UInt8) ([] : List UInt8) [] []), (0 : Int))
                                        ) else (
                                          some (have_, (0 : Int))
                                        ))
                                      ))
                                    ) else (
                                      some (have_, (0 : Int))
                                    ))
                                  ))
                                ))
                              ))
                            ))
                          ))
                        ))
                      ))
                    ) else none)
                  ) else none)
                ) else (
                  (Option.bind (
                    (bif (y_0.2.1.Kind == (7 : Int)) then (
                      some true
                    ) else (
                      some (y_0.2.1.Kind == (8 : Int))
                    ))
                  ) fun t93_2 => (
                    (bif t93_2 then (
                      (bif (y_0.2.1.Kind == (2 : Int)) then (
                        (bif (y_0.2.1.Kind == (7 : Int)) then none else (
                          (bif (y_0.2.1.Kind == y_0.2.1.Kind) then (
                            (bif (r_.Err == (0 : Int)) then (
                              some (have_, (1 : Int))
                            ) else (
                              some (have_, (0 : Int))
                            ))
                          ) else (
                            (bif (y_0.2.1.Kind == (3 : Int)) then none else (
                              (bif (y_0.2.1.Kind == (4 : Int)) then none else (
                                (bif (y_0.2.1.Kind == (5 : Int)) then none else (
                                  (bif (y_0.2.1.Kind == (6 : Int)) then none else (
                                    some (have_, (0 : Int))
                                  ))
                                ))
                              ))
                            ))
                          ))
                        ))
                      ) else (
                        (bif (y_0.2.1.Kind == (3 : Int)) then (
                          (bif (y_0.2.1.Kind == (7 : Int)) then none else (
                            (bif (y_0.2.1.Kind == (2 : Int)) then none else (
                              (bif (y_0.2.1.Kind == y_0.2.1.Kind) then (
                                (bif (r_.Err == (0 : Int)) then (
                                  some (have_, (1 : Int))
                                ) else (
                                  some (have_, (0 : Int))
                                ))
                              ) else (
                                (bif (y_0.2.1.Kind == (4 : Int)) then none else (
                                  (bif (y_0.2.1.Kind == (5 : Int)) then none else (
                                    (bif (y_0.2.1.Kind == (6 : Int)) then none else (
                                      some (have_, (0 : Int))
                                    ))
                                  ))
                                ))
                              ))
                            ))
                          ))
                        ) else (
                          (bif (y_0.2.1.Kind == (4 : Int)) then (
                            (bif (y_0.2.1.Kind == (7 : Int)) then none else (
                              (bif (y_0.2.1.Kind == (2 : Int)) then none else (
                                (bif (y_0.2.1.Kind == (3 : Int)) then none else (
                                  (bif (y_0.2.1.Kind == y_0.2.1.Kind) then (
                                    (bif (r_.Err == (0 : Int)) then (
                                      some (have_, (1 : Int))
                                    ) else (
                                      some (have_, (0 : Int))
                                    ))
                                  ) else (
                                    (bif (y_0.2.1.Kind == (5 : Int)) then none else (
                                      (bif (y_0.2.1.Kind == (6 : Int)) then none else (
                                        some (have_, (0 : Int))
                                      ))
                                    ))
                                  ))
                                ))
                              ))
                            ))
                          ) else (
                            (bif (y_0.2.1.Kind == (5 : Int)) then (
                              (bif (y_0.2.1.Kind == (7 : Int)) then none else (
                                (bif (y_0.2.1.Kind == (2 : Int)) then none else (
                                  (bif (y_0.2.1.Kind == (3 : Int)) then none else (
                                    (bif (y_0.2.1.Kind == (4 : Int)) then none else (
                                      (bif (y_0.2.1.Kind == y_0.2.1.Kind) then (
                                        (bif (r_.Err == (0 : Int)) then (
                                          some (have_, (1 : Int))
                                        ) else (
                                          some (have_, (0 : Int))
                                        ))
                                      ) else (
                                        (bif (y_0.2.1.Kind == (6 : Int)) then none else (
                                          some (have_, (0 : Int))
                                        ))
                                      ))
                                    ))
                                  ))
                                ))
                              ))
                            ) else (
                              (bif (y_0.2.1.Kind == (6 : Int)) then (
                                (bif (y_0.2.1.Kind == (7 : Int)) then none else (
                                  (bif (y_0.2.1.Kind == (2 : Int)) then none else (
                                    (bif (y_0.2.1.Kind == (3 : Int)) then none else (
                                      (bif (y_0.2.1.Kind == (4 : Int)) then none else (
                                        (bif (y_0.2.1.Kind == (5 : Int)) then none else (
                                          (bif (y_0.2.1.Kind == y_0.2.1.Kind) then (
                                            (bif (r_.Err == (0 : Int)) then (
                                              some (have_, (1 : Int))
                                            ) else (
                                              some (have_, (0 : Int))
                                            ))
                                          ) else (
                                            some (have_, (0 : Int))
                                          ))
                                        ))
                                      ))
                                    ))
                                  ))
                                ))
                              ) else (
                                (bif (y_0.2.1.Kind == (7 : Int)) then (
                                  (bif (y_0.2.1.Kind == (2 : Int)) then none else (
                                    (bif (y_0.2.1.Kind == (3 : Int)) then none else (
                                      (bif (y_0.2.1.Kind == (4 : Int)) then none else (
                                        (bif (y_0.2.1.Kind == (5 : Int)) then none else (
                                          (bif (y_0.2.1.Kind == (6 : Int)) then none else (
                                            (bif (y_0.2.1.Kind == y_0.2.1.Kind) then (
                                              (bif decide (((List.length (((AV.int IntKind.i64 (0 : Int)), (AV.agg ((AV.int IntKind.i64 have_.Id) :: ((AV.int IntKind.i64 have_.Epoch) :: ((AV.int IntKind.i64 have_.State) :: ((AV.str have_.From) :: ((AV.str have_.To) :: ((AV.sl (List.map api_Job.c have_.Jobs)) :: ((AV.sl (List.map api_Seen.c have_.Seen)) :: ((AV.int IntKind.i64 (1 : Int)) :: [])))))))))) :: [])) + 1) ≤ LIM) then (
                                                (bif (y_0.2.1.Kind == (2 : Int)) then none else (
                                                  (bif (y_0.2.1.Kind == (3 : Int)) then none else (
                                                    (bif (y_0.2.1.Kind == (4 : Int)) then none else (
                                                      (bif (y_0.2.1.Kind == (5 : Int)) then none else (
                                                        (bif (y_0.2.1.Kind == (6 : Int)) then none else (
                                                          (bif (y_0.2.1.Kind == y_0.2.1.Kind) then (
                                                            (bif (r_.Err == (0 : Int)) then (
                                                              some (have_, (1 : Int))
                                                            ) else (
                                                              (bif (r_.Err == (3 : Int)) then (
                                                                some ((api_Shard.mk (0 : Int) (0 : Int) (0 : Int) ([] : List UInt8) ([] : List UInt8) [] []), (@Neg.neg Int Int.instNegInt (1 : Int)))
                                                              ) else (
                                                                some (have_, (0 : Int))
                                                              ))
                                                            ))
                                                          ) else (
                                                            none
                                                          ))
                                                        ))
                                                      ))
                                                    ))
                                                  ))
                                                ))
                                              ) else none)
                                            ) else (
                                              none
                                            ))
                                          ))
                                        ))
                                      ))
                                    ))
                                  ))
                                ) else (
                                  (bif (y_0.2.1.Kind == (2 : Int)) then none else (
                                    (bif (y_0.2.1.Kind == (3 : Int)) then none else (
                                      (bif (y_0.2.1.Kind == (4 : Int)) then none else (
                                        (bif (y_0.2.1.Kind == (5 : Int)) then none else (
                                          (bif (y_0.2.1.Kind == (6 : Int)) then none else (
                                            (bif (y_0.2.1.Kind == y_0.2.1.Kind) then (
                                              (bif (r_.Err == (0 : Int)) then (
                                                some (have_, (1 : Int))
                                              ) else (
                                                some (have_, (0 : Int))
                                              ))
                                            ) else (
                                              some (have_, (0 : Int))
                                            ))
                                          ))
                                        ))
                                      ))
                                    ))
                                  ))
                                ))
                              ))
                            ))
                          ))
                        ))
                      ))
                    ) else (
                      (bif (y_0.2.1.Kind == (7 : Int)) then (
                        (bif (y_0.2.1.Kind == (2 : Int)) then none else (
                          (bif (y_0.2.1.Kind == (3 : Int)) then none else (
                            (bif (y_0.2.1.Kind == (4 : Int)) then none else (
                              (bif (y_0.2.1.Kind == (5 : Int)) then none else (
                                (bif (y_0.2.1.Kind == (6 : Int)) then none else (
                                  none
                                ))
                              ))
                            ))
                          ))
                        ))
                      ) else (
                        (bif (y_0.2.1.Kind == (2 : Int)) then (
                          (bif (r_.Err == (0 : Int)) then (
                            some (s, (0 : Int))
                          ) else (
                            some (have_, (0 : Int))
                          ))
                        ) else (
                          (bif (y_0.2.1.Kind == (3 : Int)) then (
                            (bif (r_.Err == (0 : Int)) then (
                              some ((api_Shard.mk (0 : Int) (0 : Int) (0 : Int) ([] : List UInt8) ([] : List UInt8) [] []), (9 : Int))
                            ) else (
                              some (have_, (0 : Int))
                            ))
                          ) else (
                            (bif (y_0.2.1.Kind == (4 : Int)) then (
                              (bif (r_.Err == (0 : Int)) then (
                                some (have_, (1 : Int))
                              ) else (
                                (bif (r_.Err == (3 : Int)) then (
                                  some (have_, (@Neg.neg Int Int.instNegInt (1 : Int)))
                                ) else (
                                  (bif (r_.Err == (1 : Int)) then (
                                    some (have_, (@Neg.neg Int Int.instNegInt (1 : Int)))
                                  ) else (
                                    (bif (r_.Err == (4 : Int)) then (
                                      some (have_, (@Neg.neg Int Int.instNegInt (1 : Int)))
                                    ) else (
                                      (bif (r_.Err == (171 : Int)) then (
                                        some (have_, (@Neg.neg Int Int.instNegInt (1 : Int)))
                                      ) else (
                                        some (have_, (0 : Int))
                                      ))
                                    ))
                                  ))
                                ))
                              ))
                            ) else (
                              (bif (y_0.2.1.Kind == (5 : Int)) then (
                                (bif (r_.Err == (0 : Int)) then (
                                  some ((api_Shard.mk (0 : Int) (0 : Int) (0 : Int) ([] : List UInt8) ([] : List UInt8) [] []), (2 : Int))
                                ) else (
                                  some (have_, (0 : Int))
                                ))
                              ) else (
                                (bif (y_0.2.1.Kind == (6 : Int)) then (
                                  (bif (r_.Err == (0 : Int)) then (
                                    some (have_, (3 : Int))
                                  ) else (
                                    (bif (r_.Err == (171 : Int)) then (
                                      some (have_, (3 : Int))
                                    ) else (
                                      some (have_, (0 : Int))
                                    ))
                                  ))
                                ) else (
                                  some (have_, (0 : Int))
                                ))
                              ))
                            ))
                          ))
                        ))
                      ))
                    ))
                  ))
                ))
              ) else none)
            ) else none)
          ) else none)
        ) else none)
      ) else none)
    ))
  ))


def matinslaw20_awake (F : Nat) : Option Bool :=
  (Option.bind (atlas_New F (2 : Int)) fun y_0 => (
    (Option.bind (atlas_Begin F y_0.1 (api_Plan.mk (1 : Int) (0 : Int) (1 : Int) (0 : Int) (2 : Int) (0 : Int) (0 : Int) ([] : List UInt8))) fun y_1 => (
      (Option.bind (mover_Next F y_1.1 (api_Shard.mk (0 : Int) (0 : Int) (0 : Int) ([] : List UInt8) ([] : List UInt8) [] [])) fun y_2 => (
        (Option.bind (mover_Heard F y_1.1 (api_Shard.mk (0 : Int) (0 : Int) (0 : Int) ([] : List UInt8) ([] : List UInt8) [] []) (api_Result.mk (0 : Int) (0 : Int) []) (api_Shard.mk (1 : Int) (1 : Int) (2 : Int) ([] : List UInt8) ([] : List UInt8) [] [])) fun y_3 => (
          (Option.bind (mover_Next F y_1.1 y_3.1) fun y_4 => (
            (Option.bind (mover_Next F y_0.1 (api_Shard.mk (0 : Int) (0 : Int) (0 : Int) ([] : List UInt8) ([] : List UInt8) [] [])) fun y_5 => (
              (bif (y_1.2 == (0 : Int)) then (
                (bif y_2.2.2 then (
                  (bif (y_2.1 == (1 : Int)) then (
                    (bif (y_2.2.1.Kind == (2 : Int)) then (
                      (bif (y_3.2 == (0 : Int)) then (
                        (bif y_4.2.2 then (
                          (bif (y_4.1 == (2 : Int)) then (
                            (bif (y_4.2.1.Kind == (4 : Int)) then (
                              (bif (y_4.2.1.State.Epoch == (2 : Int)) then (
                                (bif (y_4.2.1.State.State == (3 : Int)) then (
                                  some (!y_5.2.2)
                                ) else (
                                  some false
                                ))
                              ) else (
                                some false
                              ))
                            ) else (
                              some false
                            ))
                          ) else (
                            some false
                          ))
                        ) else (
                          some false
                        ))
                      ) else (
                        some false
                      ))
                    ) else (
                      some false
                    ))
                  ) else (
                    some false
                  ))
                ) else (
                  some false
                ))
              ) else (
                some false
              ))
            ))
          ))
        ))
      ))
    ))
  ))

def matinsref19_Place_l0 (F : Nat) (a : api_Atlas) (shard : Int) : Nat → Int → Option (((Int) ⊕ Unit))
  | 0, _ => none
  | n_6 + 1, i_7 =>
    (bif (decide (i_7 < (((List.length a.Spans) : Nat) : Int))) then (
      (bif decide ((0 : Int) ≤ i_7) then (
        (Option.bind ((a.Spans)[(Int.toNat i_7)]?) fun y_9 => (
          (bif (y_9.Shard == shard) then (
            some (Sum.inl i_7)
          ) else (
            (matinsref19_Place_l0 F a shard n_6 (IntKind.wrap IntKind.i64 (i_7 + (1 : Int))))
          ))
        ))
      ) else none)
    ) else (
      some (Sum.inr ())
    ))
def matinsref19_Place (F : Nat) (a : api_Atlas) (shard : Int) : Option Int :=
  (Option.bind (
    (matinsref19_Place_l0 F a shard F (0 : Int))
  ) fun o0 => Sum.elim (fun r => some r) (fun _ => (
    some (@Neg.neg Int Int.instNegInt (1 : Int))
  )) o0)

def matinsref09_Named_l0 (F : Nat) (s : (List UInt8)) : Nat → Int → Option (((Bool) ⊕ Unit))
  | 0, _ => none
  | n_12 + 1, i_13 =>
    (bif (decide (i_13 < (((List.length s) : Nat) : Int))) then (
      (bif decide ((0 : Int) ≤ i_13) then (
        (Option.bind ((s)[(Int.toNat i_13)]?) fun y_16 => (
          (Option.bind (
            (bif (decide ((97 : Int) ≤ (((UInt8.toNat y_16) : Nat) : Int))) then (
              (bif (decide ((((UInt8.toNat y_16) : Nat) : Int) ≤ (122 : Int))) then (
                some (!true)
              ) else (
                (bif (decide ((48 : Int) ≤ (((UInt8.toNat y_16) : Nat) : Int))) then (
                  (bif (decide ((((UInt8.toNat y_16) : Nat) : Int) ≤ (57 : Int))) then (
                    some (!true)
                  ) else (
                    (bif ((((UInt8.toNat y_16) : Nat) : Int) == (45 : Int)) then (
                      some (!true)
                    ) else (
                      some (!((((UInt8.toNat y_16) : Nat) : Int) == (46 : Int)))
                    ))
                  ))
                ) else (
                  (bif ((((UInt8.toNat y_16) : Nat) : Int) == (45 : Int)) then (
                    some (!true)
                  ) else (
                    some (!((((UInt8.toNat y_16) : Nat) : Int) == (46 : Int)))
                  ))
                ))
              ))
            ) else (
              (bif (decide ((48 : Int) ≤ (((UInt8.toNat y_16) : Nat) : Int))) then (
                (bif (decide ((((UInt8.toNat y_16) : Nat) : Int) ≤ (57 : Int))) then (
                  some (!true)
                ) else (
                  (bif ((((UInt8.toNat y_16) : Nat) : Int) == (45 : Int)) then (
                    some (!true)
                  ) else (
                    some (!((((UInt8.toNat y_16) : Nat) : Int) == (46 : Int)))
                  ))
                ))
              ) else (
                (bif ((((UInt8.toNat y_16) : Nat) : Int) == (45 : Int)) then (
                  some (!true)
                ) else (
                  some (!((((UInt8.toNat y_16) : Nat) : Int) == (46 : Int)))
                ))
              ))
            ))
          ) fun t36_17 => (
            (bif t36_17 then (
              some (Sum.inl false)
            ) else (
              (matinsref09_Named_l0 F s n_12 (IntKind.wrap IntKind.i64 (i_13 + (1 : Int))))
            ))
          ))
        ))
      ) else none)
    ) else (
      some (Sum.inr ())
    ))
def matinsref09_Named (F : Nat) (s : (List UInt8)) : Option Bool :=
  (Option.bind (
    (matinsref09_Named_l0 F s F (0 : Int))
  ) fun o4 => Sum.elim (fun r => some r) (fun _ => (
    (bif (decide ((0 : Int) < (((List.length s) : Nat) : Int))) then (
      some (decide ((((List.length s) : Nat) : Int) ≤ (16 : Int)))
    ) else (
      some false
    ))
  )) o4)

def matinsref19_spans_l0 (F : Nat) (a : api_Atlas) : Nat → (List UInt8) → Int → Option (((Bool) ⊕ Unit))
  | 0, _, _ => none
  | n_31 + 1, from__32, i_33 =>
    (bif (decide (i_33 < (((List.length a.Spans) : Nat) : Int))) then (
      (bif decide ((0 : Int) ≤ i_33) then (
        (Option.bind ((a.Spans)[(Int.toNat i_33)]?) fun y_39 => (
          (Option.bind (
            (bif (!(y_39.From == from__32)) then (
              some true
            ) else (
              (bif (decide (y_39.Shard < (1 : Int))) then (
                some true
              ) else (
                (bif (decide (a.Last < y_39.Shard)) then (
                  some true
                ) else (
                  (Option.bind (matinsref19_Place F a y_39.Shard) fun y_42 => (
                    (bif (decide (y_42 < i_33)) then (
                      some true
                    ) else (
                      (bif (decide (y_39.Epoch < (1 : Int))) then (
                        some true
                      ) else (
                        (bif (decide ((1099511627776 : Int) < y_39.Epoch)) then (
                          some true
                        ) else (
                          (bif (decide (y_39.Group < (1 : Int))) then (
                            some true
                          ) else (
                            some (decide (a.Groups < y_39.Group))
                          ))
                        ))
                      ))
                    ))
                  ))
                ))
              ))
            ))
          ) fun t86_41 => (
            (bif t86_41 then (
              some (Sum.inl false)
            ) else (
              (Option.bind (
                (bif (decide (i_33 < (IntKind.wrap IntKind.i64 ((((List.length a.Spans) : Nat) : Int) - (1 : Int))))) then (
                  (Option.bind (matinsref09_Named F y_39.To) fun y_45 => (
                    (bif (!y_45) then (
                      some true
                    ) else (
                      (bif ((@Op.bytesLess y_39.To y_39.From) || (y_39.To == y_39.From)) then (
                        some true
                      ) else (
                        (bif (i_33 == (IntKind.wrap IntKind.i64 ((((List.length a.Spans) : Nat) : Int) - (1 : Int)))) then (
                          some (!(y_39.To == ([] : List UInt8)))
                        ) else (
                          some false
                        ))
                      ))
                    ))
                  ))
                ) else (
                  (bif (i_33 == (IntKind.wrap IntKind.i64 ((((List.length a.Spans) : Nat) : Int) - (1 : Int)))) then (
                    some (!(y_39.To == ([] : List UInt8)))
                  ) else (
                    some false
                  ))
                ))
              ) fun t114_44 => (
                (bif t114_44 then (
                  some (Sum.inl false)
                ) else (
                  (matinsref19_spans_l0 F a n_31 y_39.To (IntKind.wrap IntKind.i64 (i_33 + (1 : Int))))
                ))
              ))
            ))
          ))
        ))
      ) else none)
    ) else (
      some (Sum.inr ())
    ))
def matinsref19_spans (F : Nat) (a : api_Atlas) : Option Bool :=
  (Option.bind (
    (bif (decide (a.Groups < (1 : Int))) then (
      some true
    ) else (
      (bif (decide ((8 : Int) < a.Groups)) then (
        some true
      ) else (
        (bif ((((List.length a.Spans) : Nat) : Int) == (0 : Int)) then (
          some true
        ) else (
          (bif (decide ((16 : Int) < (((List.length a.Spans) : Nat) : Int))) then (
            some true
          ) else (
            some (decide ((1099511627776 : Int) < a.Last))
          ))
        ))
      ))
    ))
  ) fun t30_0 => (
    (bif t30_0 then (
      some false
    ) else (
      (Option.bind (
        (matinsref19_spans_l0 F a F ([] : List UInt8) (0 : Int))
      ) fun o9 => Sum.elim (fun r => some r) (fun _ => (
        some true
      )) o9)
    ))
  ))


def matinsref19_move (F : Nat) (a : api_Atlas) (s : api_Span) : Option Bool :=
  (Option.bind (
    (bif (decide (a.Plan.Group < (1 : Int))) then (
      some true
    ) else (
      (bif (decide (a.Groups < a.Plan.Group)) then (
        some true
      ) else (
        (bif (decide (a.Plan.Past < (1 : Int))) then (
          some true
        ) else (
          (bif (decide (a.Groups < a.Plan.Past)) then (
            some true
          ) else (
            (bif (a.Plan.Group == a.Plan.Past) then (
              some true
            ) else (
              (bif (a.Plan.Other != (0 : Int)) then (
                some true
              ) else (
                some (!(a.Plan.Key == ([] : List UInt8)))
              ))
            ))
          ))
        ))
      ))
    ))
  ) fun t46_0 => (
    (bif t46_0 then (
      some false
    ) else (
      (bif (a.Plan.Phase == (1 : Int)) then (
        (bif (s.Group == a.Plan.Past) then (
          some (a.Plan.Epoch == s.Epoch)
        ) else (
          some false
        ))
      ) else (
        (Option.bind (
          (bif (a.Plan.Phase == (2 : Int)) then (
            some (a.Plan.Phase == (2 : Int))
          ) else (
            some (a.Plan.Phase == (3 : Int))
          ))
        ) fun t63_2 => (
          (bif t63_2 then (
            (bif (s.Group == a.Plan.Group) then (
              some (a.Plan.Epoch == (IntKind.wrap IntKind.i64 (s.Epoch - (1 : Int))))
            ) else (
              some false
            ))
          ) else (
            (bif (a.Plan.Phase == (9 : Int)) then (
              (bif (s.Group == a.Plan.Past) then (
                some (a.Plan.Epoch == (IntKind.wrap IntKind.i64 (s.Epoch - (2 : Int))))
              ) else (
                some false
              ))
            ) else (
              some false
            ))
          ))
        ))
      ))
    ))
  ))


def matinsref19_inside (F : Nat) (s : api_Span) (key : (List UInt8)) : Option Bool :=
  (Option.bind (matinsref09_Named F key) fun y_0 => (
    (bif y_0 then (
      (bif (@Op.bytesLess s.From key) then (
        (bif (s.To == ([] : List UInt8)) then (
          some true
        ) else (
          some (@Op.bytesLess key s.To)
        ))
      ) else (
        some false
      ))
    ) else (
      some false
    ))
  ))


def matinsref19_Check (F : Nat) (a : api_Atlas) : Option Bool :=
  (Option.bind (matinsref19_spans F a) fun y_0 => (
    (bif (!y_0) then (
      some false
    ) else (
      (bif ((a.Plan.Kind == (0 : Int)) && ((a.Plan.Phase == (0 : Int)) && ((a.Plan.Shard == (0 : Int)) && ((a.Plan.Other == (0 : Int)) && ((a.Plan.Group == (0 : Int)) && ((a.Plan.Past == (0 : Int)) && ((a.Plan.Epoch == (0 : Int)) && ((a.Plan.Key == ([] : List UInt8)) && true)))))))) then (
        some true
      ) else (
        (Option.bind (matinsref19_Place F a a.Plan.Shard) fun y_1 => (
          (Option.bind (
            (bif (decide (y_1 < (0 : Int))) then (
              some true
            ) else (
              (bif (decide (a.Plan.Kind < (1 : Int))) then (
                some true
              ) else (
                (bif (decide ((3 : Int) < a.Plan.Kind)) then (
                  some true
                ) else (
                  (bif (decide (a.Plan.Epoch < (1 : Int))) then (
                    some true
                  ) else (
                    some (decide ((1099511627774 : Int) < a.Plan.Epoch))
                  ))
                ))
              ))
            ))
          ) fun t39_2 => (
            (bif t39_2 then (
              some false
            ) else (
              (bif decide ((0 : Int) ≤ y_1) then (
                (Option.bind ((a.Spans)[(Int.toNat y_1)]?) fun y_3 => (
                  (bif (a.Plan.Kind == (1 : Int)) then (
                    (Option.bind (matinsref19_move F a y_3) fun y_4 => (
                      some y_4
                    ))
                  ) else (
                    (Option.bind (
                      (bif (a.Plan.Group != y_3.Group) then (
                        some true
                      ) else (
                        (bif (a.Plan.Past != (0 : Int)) then (
                          some true
                        ) else (
                          (bif (a.Plan.Phase != (1 : Int)) then (
                            (bif (a.Plan.Phase != (9 : Int)) then (
                              some true
                            ) else (
                              (bif (a.Plan.Phase == (1 : Int)) then none else (
                                (bif (a.Plan.Phase == (9 : Int)) then (
                                  some (a.Plan.Epoch != (IntKind.wrap IntKind.i64 (y_3.Epoch - (2 : Int))))
                                ) else (
                                  none
                                ))
                              ))
                            ))
                          ) else (
                            (bif (a.Plan.Phase == (1 : Int)) then (
                              (bif (a.Plan.Epoch != y_3.Epoch) then (
                                some true
                              ) else (
                                (bif (a.Plan.Phase == (9 : Int)) then none else (
                                  some false
                                ))
                              ))
                            ) else (
                              none
                            ))
                          ))
                        ))
                      ))
                    ) fun t95_5 => (
                      (bif t95_5 then (
                        some false
                      ) else (
                        (bif (a.Plan.Kind == (2 : Int)) then (
                          (bif (a.Plan.Other == a.Last) then (
                            (Option.bind (matinsref19_Place F a a.Plan.Other) fun y_6 => (
                              (bif (decide (y_6 < (0 : Int))) then (
                                (Option.bind (matinsref19_inside F y_3 a.Plan.Key) fun y_7 => (
                                  (bif y_7 then (
                                    some (decide ((((List.length (List.map api_Span.c a.Spans)) : Nat) : Int) < (16 : Int)))
                                  ) else (
                                    some false
                                  ))
                                ))
                              ) else (
                                some false
                              ))
                            ))
                          ) else (
                            some false
                          ))
                        ) else (
                          (bif (a.Plan.Key == ([] : List UInt8)) then (
                            (bif (decide ((IntKind.wrap IntKind.i64 (y_1 + (1 : Int))) < (((List.length a.Spans) : Nat) : Int))) then (
                              (bif decide ((0 : Int) ≤ (IntKind.wrap IntKind.i64 (y_1 + (1 : Int)))) then (
                                (Option.bind ((a.Spans)[(Int.toNat (IntKind.wrap IntKind.i64 (y_1 + (1 : Int))))]?) fun y_8 => (
                                  (bif (y_8.Shard == a.Plan.Other) then (
                                    (bif decide ((0 : Int) ≤ (IntKind.wrap IntKind.i64 (y_1 + (1 : Int)))) then (
                                      (Option.bind ((a.Spans)[(Int.toNat (IntKind.wrap IntKind.i64 (y_1 + (1 : Int))))]?) fun y_9 => (
                                        (bif (y_9.Group == y_3.Group) then (
                                          (bif decide ((0 : Int) ≤ (IntKind.wrap IntKind.i64 (y_1 + (1 : Int)))) then (
                                            (Option.bind ((a.Spans)[(Int.toNat (IntKind.wrap IntKind.i64 (y_1 + (1 : Int))))]?) fun y_10 => (
                                              some (decide (y_10.Epoch ≤ (1099511627774 : Int)))
                                            ))
                                          ) else none)
                                        ) else (
                                          some false
                                        ))
                                      ))
                                    ) else none)
                                  ) else (
                                    some false
                                  ))
                                ))
                              ) else none)
                            ) else (
                              some false
                            ))
                          ) else (
                            some false
                          ))
                        ))
                      ))
                    ))
                  ))
                ))
              ) else none)
            ))
          ))
        ))
      ))
    ))
  ))


def matinsref20_Has (F : Nat) (p : api_Plan) (have_ : api_Shard) : Option Bool :=
  (bif (have_.Id == p.Shard) then (
    some (have_.Epoch == p.Epoch)
  ) else (
    some false
  ))


def matinsref20_Next (F : Nat) (a : api_Atlas) (have_ : api_Shard) : Option (Int × api_Order × Bool) :=
  (Option.bind (
    (Option.bind (matinsref19_Check F a) fun y_2 => (
      (bif (!y_2) then (
        some true
      ) else (
        some (a.Plan.Kind == (0 : Int))
      ))
    ))
  ) fun t20_1 => (
    (bif t20_1 then (
      some ((0 : Int), (api_Order.mk (0 : Int) (0 : Int) (0 : Int) (0 : Int) (0 : Int) ([] : List UInt8) (api_Cmd.mk (0 : Int) (0 : Int) (0 : Int) ([] : List UInt8) ([] : List UInt8) ([] : List UInt8) ([] : List UInt8) (0 : Int)) (api_Shard.mk (0 : Int) (0 : Int) (0 : Int) ([] : List UInt8) ([] : List UInt8) [] [])), false)
    ) else (
      (Option.bind (
        (bif (a.Plan.Kind == (1 : Int)) then (
          some a.Plan.Past
        ) else (
          some a.Plan.Group
        ))
      ) fun owner_3 => (
        (Option.bind (
          (bif (a.Plan.Phase == (9 : Int)) then (
            (bif (a.Plan.Kind == (1 : Int)) then (
              (Option.bind (matinsref20_Has F a.Plan have_) fun y_6 => (
                (bif y_6 then (
                  some (have_.State != (4 : Int))
                ) else (
                  some false
                ))
              ))
            ) else (
              some false
            ))
          ) else (
            some false
          ))
        ) fun t48_5 => (
          (bif t48_5 then (
            some (a.Plan.Group, (api_Order.mk (6 : Int) a.Plan.Shard (IntKind.wrap IntKind.i64 (a.Plan.Epoch + (1 : Int))) (0 : Int) (0 : Int) ([] : List UInt8) (api_Cmd.mk (0 : Int) (0 : Int) (0 : Int) ([] : List UInt8) ([] : List UInt8) ([] : List UInt8) ([] : List UInt8) (0 : Int)) (api_Shard.mk (0 : Int) (0 : Int) (0 : Int) ([] : List UInt8) ([] : List UInt8) [] [])), true)
          ) else (
            (Option.bind (
              (bif (a.Plan.Phase == (9 : Int)) then (
                (Option.bind (matinsref20_Has F a.Plan have_) fun y_9 => (
                  some y_9
                ))
              ) else (
                some false
              ))
            ) fun t64_8 => (
              (bif t64_8 then (
                some (owner_3, (api_Order.mk (3 : Int) a.Plan.Shard a.Plan.Epoch (0 : Int) (IntKind.wrap IntKind.i64 (a.Plan.Epoch + (2 : Int))) ([] : List UInt8) (api_Cmd.mk (0 : Int) (0 : Int) (0 : Int) ([] : List UInt8) ([] : List UInt8) ([] : List UInt8) ([] : List UInt8) (0 : Int)) (api_Shard.mk (0 : Int) (0 : Int) (0 : Int) ([] : List UInt8) ([] : List UInt8) [] [])), true)
              ) else (
                (Option.bind (
                  (bif (a.Plan.Phase == (9 : Int)) then (
                    some true
                  ) else (
                    (bif (a.Plan.Kind == (1 : Int)) then (
                      (bif (a.Plan.Phase == (1 : Int)) then (
                        (Option.bind (matinsref20_Has F a.Plan have_) fun y_12 => (
                          some (!y_12)
                        ))
                      ) else (
                        some false
                      ))
                    ) else (
                      some false
                    ))
                  ))
                ) fun t92_11 => (
                  (bif t92_11 then (
                    some (owner_3, (api_Order.mk (2 : Int) a.Plan.Shard a.Plan.Epoch (0 : Int) (0 : Int) ([] : List UInt8) (api_Cmd.mk (0 : Int) (0 : Int) (0 : Int) ([] : List UInt8) ([] : List UInt8) ([] : List UInt8) ([] : List UInt8) (0 : Int)) (api_Shard.mk (0 : Int) (0 : Int) (0 : Int) ([] : List UInt8) ([] : List UInt8) [] [])), true)
                  ) else (
                    (bif (a.Plan.Kind == (2 : Int)) then (
                      some (a.Plan.Group, (api_Order.mk (7 : Int) a.Plan.Shard a.Plan.Epoch a.Plan.Other (IntKind.wrap IntKind.i64 (a.Plan.Epoch + (1 : Int))) a.Plan.Key (api_Cmd.mk (0 : Int) (0 : Int) (0 : Int) ([] : List UInt8) ([] : List UInt8) ([] : List UInt8) ([] : List UInt8) (0 : Int)) (api_Shard.mk (0 : Int) (0 : Int) (0 : Int) ([] : List UInt8) ([] : List UInt8) [] [])), true)
                    ) else (
                      (bif (a.Plan.Kind == (3 : Int)) then (
                        (Option.bind (matinsref19_Place F a a.Plan.Shard) fun y_13 => (
                          (bif decide ((0 : Int) ≤ (IntKind.wrap IntKind.i64 (y_13 + (1 : Int)))) then (
                            (Option.bind ((a.Spans)[(Int.toNat (IntKind.wrap IntKind.i64 (y_13 + (1 : Int))))]?) fun y_14 => (
                              (Option.bind (
                                (bif (decide (a.Plan.Epoch < y_14.Epoch)) then (
                                  some y_14.Epoch
                                ) else (
                                  some a.Plan.Epoch
                                ))
                              ) fun past_15 => (
                                some (a.Plan.Group, (api_Order.mk (8 : Int) a.Plan.Shard a.Plan.Epoch a.Plan.Other (IntKind.wrap IntKind.i64 (past_15 + (1 : Int))) ([] : List UInt8) (api_Cmd.mk (0 : Int) (0 : Int) (0 : Int) ([] : List UInt8) ([] : List UInt8) ([] : List UInt8) ([] : List UInt8) (0 : Int)) (api_Shard.mk (0 : Int) y_14.Epoch (0 : Int) ([] : List UInt8) ([] : List UInt8) [] [])), true)
                              ))
                            ))
                          ) else none)
                        ))
                      ) else (
                        (bif (a.Plan.Phase == (1 : Int)) then (
                          some (a.Plan.Group, (api_Order.mk (4 : Int) (0 : Int) (0 : Int) (0 : Int) (0 : Int) ([] : List UInt8) (api_Cmd.mk (0 : Int) (0 : Int) (0 : Int) ([] : List UInt8) ([] : List UInt8) ([] : List UInt8) ([] : List UInt8) (0 : Int)) (api_Shard.mk have_.Id (IntKind.wrap IntKind.i64 (a.Plan.Epoch + (1 : Int))) (3 : Int) have_.From have_.To have_.Jobs have_.Seen)), true)
                        ) else (
                          (bif (a.Plan.Phase == (2 : Int)) then (
                            some (a.Plan.Group, (api_Order.mk (5 : Int) a.Plan.Shard (IntKind.wrap IntKind.i64 (a.Plan.Epoch + (1 : Int))) (0 : Int) (0 : Int) ([] : List UInt8) (api_Cmd.mk (0 : Int) (0 : Int) (0 : Int) ([] : List UInt8) ([] : List UInt8) ([] : List UInt8) ([] : List UInt8) (0 : Int)) (api_Shard.mk (0 : Int) (0 : Int) (0 : Int) ([] : List UInt8) ([] : List UInt8) [] [])), true)
                          ) else (
                            some (a.Plan.Past, (api_Order.mk (6 : Int) a.Plan.Shard a.Plan.Epoch (0 : Int) (0 : Int) ([] : List UInt8) (api_Cmd.mk (0 : Int) (0 : Int) (0 : Int) ([] : List UInt8) ([] : List UInt8) ([] : List UInt8) ([] : List UInt8) (0 : Int)) (api_Shard.mk (0 : Int) (0 : Int) (0 : Int) ([] : List UInt8) ([] : List UInt8) [] [])), true)
                          ))
                        ))
                      ))
                    ))
                  ))
                ))
              ))
            ))
          ))
        ))
      ))
    ))
  ))


def matinsref20_Heard (F : Nat) (a : api_Atlas) (have_ : api_Shard) (r_ : api_Result) (s : api_Shard) : Option (api_Shard × Int) :=
  (Option.bind (matinsref20_Next F a have_) fun y_0 => (
    (bif (!y_0.2.2) then (
      some (have_, (0 : Int))
    ) else (
      (Option.bind (
        (bif (y_0.2.1.Kind == (2 : Int)) then (
          (bif (r_.Err == (0 : Int)) then (
            some (Sum.inl (s, (0 : Int)))
          ) else (
            (Option.bind (
              (bif (r_.Err == (171 : Int)) then (
                some (a.Plan.Phase == (9 : Int))
              ) else (
                some false
              ))
            ) fun t41_6 => (
              (bif t41_6 then (
                some (Sum.inl ((api_Shard.mk a.Plan.Shard a.Plan.Epoch (0 : Int) ([] : List UInt8) ([] : List UInt8) [] []), (0 : Int)))
              ) else (
                some (Sum.inr ())
              ))
            ))
          ))
        ) else (
          (bif (y_0.2.1.Kind == (4 : Int)) then (
            (bif (r_.Err == (0 : Int)) then (
              some (Sum.inl (have_, (1 : Int)))
            ) else (
              (Option.bind (
                (bif (r_.Err == (3 : Int)) then (
                  some true
                ) else (
                  (bif (r_.Err == (1 : Int)) then (
                    some true
                  ) else (
                    (bif (r_.Err == (4 : Int)) then (
                      some true
                    ) else (
                      some (r_.Err == (171 : Int))
                    ))
                  ))
                ))
              ) fun t70_7 => (
                (bif t70_7 then (
                  some (Sum.inl (have_, (@Neg.neg Int Int.instNegInt (1 : Int))))
                ) else (
                  some (Sum.inr ())
                ))
              ))
            ))
          ) else (
            (bif (y_0.2.1.Kind == (5 : Int)) then (
              (bif (r_.Err == (0 : Int)) then (
                some (Sum.inl ((api_Shard.mk (0 : Int) (0 : Int) (0 : Int) ([] : List UInt8) ([] : List UInt8) [] []), (2 : Int)))
              ) else (
                some (Sum.inr ())
              ))
            ) else (
              (bif (y_0.2.1.Kind == (6 : Int)) then (
                (Option.bind (
                  (bif (!(r_.Err == (0 : Int))) then (
                    some (r_.Err != (171 : Int))
                  ) else (
                    some false
                  ))
                ) fun t84_8 => (
                  (bif t84_8 then (
                    some (Sum.inl (have_, (0 : Int)))
                  ) else (
                    (bif (a.Plan.Phase == (9 : Int)) then (
                      some (Sum.inl ((api_Shard.mk a.Plan.Shard a.Plan.Epoch (4 : Int) ([] : List UInt8) ([] : List UInt8) [] []), (0 : Int)))
                    ) else (
                      some (Sum.inl (have_, (3 : Int)))
                    ))
                  ))
                ))
              ) else (
                (bif (y_0.2.1.Kind == (3 : Int)) then (
                  (bif (r_.Err == (0 : Int)) then (
                    some (Sum.inl ((api_Shard.mk (0 : Int) (0 : Int) (0 : Int) ([] : List UInt8) ([] : List UInt8) [] []), (9 : Int)))
                  ) else (
                    some (Sum.inr ())
                  ))
                ) else (
                  (Option.bind (
                    (bif (y_0.2.1.Kind == (7 : Int)) then (
                      some (y_0.2.1.Kind == (7 : Int))
                    ) else (
                      some (y_0.2.1.Kind == (8 : Int))
                    ))
                  ) fun t102_9 => (
                    (bif t102_9 then (
                      (bif (r_.Err == (0 : Int)) then (
                        some (Sum.inl (have_, (1 : Int)))
                      ) else (
                        (Option.bind (
                          (bif (r_.Err == (3 : Int)) then (
                            some (y_0.2.1.Kind == (7 : Int))
                          ) else (
                            some false
                          ))
                        ) fun t114_10 => (
                          (bif t114_10 then (
                            some (Sum.inl ((api_Shard.mk (0 : Int) (0 : Int) (0 : Int) ([] : List UInt8) ([] : List UInt8) [] []), (@Neg.neg Int Int.instNegInt (1 : Int))))
                          ) else (
                            some (Sum.inr ())
                          ))
                        ))
                      ))
                    ) else (
                      some (Sum.inr ())
                    ))
                  ))
                ))
              ))
            ))
          ))
        ))
      ) fun o5 => Sum.elim (fun r => some r) (fun _ => (
        some (have_, (0 : Int))
      )) o5)
    ))
  ))


def matinsref18_Order (F : Nat) (a : api_Order) (b : api_Order) : Option Bool :=
  (bif (a.Kind == b.Kind) then (
    (bif (a.Shard == b.Shard) then (
      (bif (a.Epoch == b.Epoch) then (
        (bif (a.Other == b.Other) then (
          (bif (a.Past == b.Past) then (
            (bif (a.Key == b.Key) then (
              some ((a.Cmd.Kind == b.Cmd.Kind) && ((a.Cmd.Client == b.Cmd.Client) && ((a.Cmd.Seq == b.Cmd.Seq) && ((a.Cmd.Name == b.Cmd.Name) && ((a.Cmd.Expr == b.Cmd.Expr) && ((a.Cmd.Zone == b.Cmd.Zone) && ((a.Cmd.Token == b.Cmd.Token) && ((a.Cmd.Time == b.Cmd.Time) && true))))))))
            ) else (
              some false
            ))
          ) else (
            some false
          ))
        ) else (
          some false
        ))
      ) else (
        some false
      ))
    ) else (
      some false
    ))
  ) else (
    some false
  ))

def matinsref16_Jobs_l0 (F : Nat) (a : (List api_Job)) (b : (List api_Job)) : Nat → Int → Option (((Bool) ⊕ Unit))
  | 0, _ => none
  | n_12 + 1, i_13 =>
    (bif (decide (i_13 < (((List.length a) : Nat) : Int))) then (
      (bif decide ((0 : Int) ≤ i_13) then (
        (Option.bind ((a)[(Int.toNat i_13)]?) fun y_16 => (
          (bif decide ((0 : Int) ≤ i_13) then (
            (Option.bind ((b)[(Int.toNat i_13)]?) fun y_17 => (
              (bif (!((y_16.Name == y_17.Name) && ((y_16.Expr == y_17.Expr) && ((y_16.Zone == y_17.Zone) && ((y_16.Token == y_17.Token) && ((y_16.Client == y_17.Client) && ((y_16.Seq == y_17.Seq) && ((y_16.Paused == y_17.Paused) && ((y_16.Mark == y_17.Mark) && true))))))))) then (
                some (Sum.inl false)
              ) else (
                (matinsref16_Jobs_l0 F a b n_12 (IntKind.wrap IntKind.i64 (i_13 + (1 : Int))))
              ))
            ))
          ) else none)
        ))
      ) else none)
    ) else (
      some (Sum.inr ())
    ))
def matinsref16_Jobs (F : Nat) (a : (List api_Job)) (b : (List api_Job)) : Option Bool :=
  (bif ((((List.length a) : Nat) : Int) != (((List.length b) : Nat) : Int)) then (
    some false
  ) else (
    (Option.bind (
      (matinsref16_Jobs_l0 F a b F (0 : Int))
    ) fun o0 => Sum.elim (fun r => some r) (fun _ => (
      some true
    )) o0)
  ))


def matinsref16_Result (F : Nat) (a : api_Result) (b : api_Result) : Option Bool :=
  (bif (a.Err == b.Err) then (
    (bif (a.Time == b.Time) then (
      (Option.bind (matinsref16_Jobs F a.Jobs b.Jobs) fun y_0 => (
        some y_0
      ))
    ) else (
      some false
    ))
  ) else (
    some false
  ))

def matinsref17_Books_l0 (F : Nat) (a : (List api_Seen)) (b : (List api_Seen)) : Nat → Int → Option (((Bool) ⊕ Unit))
  | 0, _ => none
  | n_48 + 1, i_49 =>
    (bif (decide (i_49 < (((List.length a) : Nat) : Int))) then (
      (Option.bind (
        (bif decide ((0 : Int) ≤ i_49) then (
          (Option.bind ((a)[(Int.toNat i_49)]?) fun y_66 => (
            (bif decide ((0 : Int) ≤ i_49) then (
              (Option.bind ((b)[(Int.toNat i_49)]?) fun y_67 => (
                (bif (y_66.Client != y_67.Client) then (
                  some true
                ) else (
                  (bif decide ((0 : Int) ≤ i_49) then (
                    (Option.bind ((a)[(Int.toNat i_49)]?) fun y_68 => (
                      (bif decide ((0 : Int) ≤ i_49) then (
                        (Option.bind ((b)[(Int.toNat i_49)]?) fun y_69 => (
                          (bif (y_68.Seq != y_69.Seq) then (
                            some true
                          ) else (
                            (bif decide ((0 : Int) ≤ i_49) then (
                              (Option.bind ((a)[(Int.toNat i_49)]?) fun y_70 => (
                                (bif decide ((0 : Int) ≤ i_49) then (
                                  (Option.bind ((b)[(Int.toNat i_49)]?) fun y_71 => (
                                    (Option.bind (matinsref16_Result F y_70.Result y_71.Result) fun y_72 => (
                                      some (!y_72)
                                    ))
                                  ))
                                ) else none)
                              ))
                            ) else none)
                          ))
                        ))
                      ) else none)
                    ))
                  ) else none)
                ))
              ))
            ) else none)
          ))
        ) else none)
      ) fun t54_65 => (
        (bif t54_65 then (
          some (Sum.inl false)
        ) else (
          (matinsref17_Books_l0 F a b n_48 (IntKind.wrap IntKind.i64 (i_49 + (1 : Int))))
        ))
      ))
    ) else (
      some (Sum.inr ())
    ))
def matinsref17_Books (F : Nat) (a : (List api_Seen)) (b : (List api_Seen)) : Option Bool :=
  (bif ((((List.length a) : Nat) : Int) != (((List.length b) : Nat) : Int)) then (
    some false
  ) else (
    (Option.bind (
      (matinsref17_Books_l0 F a b F (0 : Int))
    ) fun o4 => Sum.elim (fun r => some r) (fun _ => (
      some true
    )) o4)
  ))


def matinsref18_Shard (F : Nat) (a : api_Shard) (b : api_Shard) : Option Bool :=
  (bif (a.Id == b.Id) then (
    (bif (a.Epoch == b.Epoch) then (
      (bif (a.State == b.State) then (
        (bif (a.From == b.From) then (
          (bif (a.To == b.To) then (
            (Option.bind (matinsref16_Jobs F a.Jobs b.Jobs) fun y_0 => (
              (bif y_0 then (
                (Option.bind (matinsref17_Books F a.Seen b.Seen) fun y_1 => (
                  some y_1
                ))
              ) else (
                some false
              ))
            ))
          ) else (
            some false
          ))
        ) else (
          some false
        ))
      ) else (
        some false
      ))
    ) else (
      some false
    ))
  ) else (
    some false
  ))


def matinslaw20_MoverTells (F : Nat) (a : api_Atlas) (have_ : api_Shard) (r_ : api_Result) (s : api_Shard) : Option Bool :=
  (Option.bind (matinslaw20_awake F) fun y_0 => (
    (bif (!y_0) then (
      some false
    ) else (
      (Option.bind (mover_Next F a have_) fun y_1 => (
        (Option.bind (matinsref20_Next F a have_) fun y_2 => (
          (Option.bind (mover_Heard F a have_ r_ s) fun y_3 => (
            (Option.bind (matinsref20_Heard F a have_ r_ s) fun y_4 => (
              (bif (y_1.1 == y_2.1) then (
                (Option.bind (matinsref18_Order F y_1.2.1 y_2.2.1) fun y_5 => (
                  (bif y_5 then (
                    (Option.bind (matinsref18_Shard F y_1.2.1.State y_2.2.1.State) fun y_6 => (
                      (bif y_6 then (
                        (bif (y_1.2.2 == y_2.2.2) then (
                          (Option.bind (matinsref18_Shard F y_3.1 y_4.1) fun y_7 => (
                            (bif y_7 then (
                              some (y_3.2 == y_4.2)
                            ) else (
                              some false
                            ))
                          ))
                        ) else (
                          some false
                        ))
                      ) else (
                        some false
                      ))
                    ))
                  ) else (
                    some false
                  ))
                ))
              ) else (
                some false
              ))
            ))
          ))
        ))
      ))
    ))
  ))

end Go.T
