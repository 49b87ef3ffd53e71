import Derived.Test.YtcpicekmnkjceaaTe4ca4d86
namespace Go.Proofs.Ytcpicekmnkjceaa.VI
set_option linter.unusedVariables false
set_option linter.unusedSimpArgs false
set_option maxRecDepth 100000
set_option linter.unusedSimpArgs false
set_option linter.unusedVariables false
noncomputable def O_annealseat_Config : Orc := orn
theorem okO_annealseat_Config : OrcOk PR O_annealseat_Config := (orn_ok _)
abbrev fa_annealseat_Config : Fm := (.pair (.i .u8) (.pair (.i .u8) (.pair (.i .u8) (.pair (.i .u8) (.pair (.i .u64) .unit)))))
abbrev ha_annealseat_Config : List BF := []
abbrev fr_annealseat_Config : Fm := (.agg (.pair (.si .i64) (.pair (.i .i64) (.pair (.i .i64) (.pair (.i .i64) (.pair (.i .i64) (.pair (.i .i64) (.pair (.i .u32) (.pair (.i .u32) (.pair (.i .u32) (.pair (.i .u32) (.pair (.i .u32) (.pair (.i .u32) (.pair (.i .i64) (.pair (.i .i64) (.pair (.i .i64) (.pair (.i .i64) (.pair (.i .u64) (.pair (.i .u32) (.pair .b (.pair (.i .i64) (.pair (.i .i64) (.pair (.i .i64) (.pair (.i .i64) (.pair (.i .i64) (.pair (.i .i64) (.pair (.i .i64) .unit)))))))))))))))))))))))))))
abbrev hr_annealseat_Config : List BF := []
noncomputable def L_annealseat_Config : Lps := L0
def inn_annealseat_Config : T fr_annealseat_Config → TH hr_annealseat_Config → List Int × Int × Int × Int × Int × Int × Int × Int × Int × Int × Int × Int × Int × Int × Int × Int × Int × Int × Bool × Int × Int × Int × Int × Int × Int × Int × Unit := (fun z w => z)
def out_annealseat_Config : List Int × Int × Int × Int × Int × Int × Int × Int × Int × Int × Int × Int × Int × Int × Int × Int × Int × Int × Bool × Int × Int × Int × Int × Int × Int × Int × Unit → T fr_annealseat_Config × TH hr_annealseat_Config := fun r => (r, ())
noncomputable def F_annealseat_Config (a0 : Int) (a1 : Int) (a2 : Int) (a3 : Int) (a4 : Int) : Option (List Int × Int × Int × Int × Int × Int × Int × Int × Int × Int × Int × Int × Int × Int × Int × Int × Int × Int × Bool × Int × Int × Int × Int × Int × Int × Int × Unit) :=
  let x0 : Nat := ((0:Nat) + ((Int.toNat (Int.tmod a0 (6:Int))) * (1:Nat)))
  let x1 : Int := (Int.tmod (IntKind.wrap .i64 a1) (3:Int))
  let x2 : Int := (IntKind.wrap .i64 (x1 + (Int.tmod (IntKind.wrap .i64 a0) (25:Int))))
  let x3 : Int := (IntKind.wrap .i64 ((IntKind.wrap .i64 (x2 - x1)) + (1:Int)))
  let x4 : Bool := (x3 == (0:Int))
  let x5 : Nat := ((0:Nat) + ((Int.toNat (Int.tmod a2 (4:Int))) * (1:Nat)))
  let x6 : Int := (Int.tmod (IntKind.wrap .i64 (IntKind.wrap .u8 (Int.tdiv a3 (3:Int)))) (4:Int))
  let x7 : List Int := [(2:Int), (2:Int)]
  bif (decide (((0:Int) ≤ (Int.tmod a0 (6:Int))) ∧ ((Int.tmod a0 (6:Int)) < (6:Int)))) then
    bif (Nat.beq x0 (0:Nat)) then
      bif (decide (((0:Int) ≤ (Int.tmod a2 (4:Int))) ∧ ((Int.tmod a2 (4:Int)) < (4:Int)))) then
        bif (decide (x5 < (4:Nat))) then
          bif (decide (((0:Int) ≤ (Int.tmod (IntKind.wrap .u8 (Int.tdiv a2 (4:Int))) (3:Int))) ∧ ((Int.tmod (IntKind.wrap .u8 (Int.tdiv a2 (4:Int))) (3:Int)) < (3:Int)))) then
            bif (decide (((0:Nat) + ((Int.toNat (Int.tmod (IntKind.wrap .u8 (Int.tdiv a2 (4:Int))) (3:Int))) * (1:Nat))) < (3:Nat))) then
              bif (decide (((0:Int) ≤ (Int.tmod (IntKind.wrap .u8 (Int.tdiv a2 (12:Int))) (2:Int))) ∧ ((Int.tmod (IntKind.wrap .u8 (Int.tdiv a2 (12:Int))) (2:Int)) < (2:Int)))) then
                bif (decide (((0:Nat) + ((Int.toNat (Int.tmod (IntKind.wrap .u8 (Int.tdiv a2 (12:Int))) (2:Int))) * (1:Nat))) < (2:Nat))) then
                  bif (decide (((0:Int) ≤ (Int.tmod (IntKind.wrap .u8 (Int.tdiv a2 (24:Int))) (2:Int))) ∧ ((Int.tmod (IntKind.wrap .u8 (Int.tdiv a2 (24:Int))) (2:Int)) < (2:Int)))) then
                    bif (decide (((0:Nat) + ((Int.toNat (Int.tmod (IntKind.wrap .u8 (Int.tdiv a2 (24:Int))) (2:Int))) * (1:Nat))) < (2:Nat))) then
                      bif (decide (((0:Int) ≤ (Int.tmod (IntKind.wrap .u8 (Int.tdiv a2 (48:Int))) (2:Int))) ∧ ((Int.tmod (IntKind.wrap .u8 (Int.tdiv a2 (48:Int))) (2:Int)) < (2:Int)))) then
                        bif (decide (((0:Nat) + ((Int.toNat (Int.tmod (IntKind.wrap .u8 (Int.tdiv a2 (48:Int))) (2:Int))) * (1:Nat))) < (2:Nat))) then
                          bif (decide (((0:Int) ≤ (Int.tmod a3 (3:Int))) ∧ ((Int.tmod a3 (3:Int)) < (3:Int)))) then
                            bif (decide (((0:Nat) + ((Int.toNat (Int.tmod a3 (3:Int))) * (1:Nat))) < (3:Nat))) then
                              bif (decide (((0:Int) ≤ (Int.tmod a2 (4:Int))) ∧ ((Int.tmod a2 (4:Int)) < (4:Int)))) then
                                bif (decide (x5 < (4:Nat))) then
                                  bif x4 then
                                    none
                                  else
                                    (some ([(2:Int), (3:Int)], ((Int.tmod (IntKind.wrap .i64 (IntKind.wrap .u8 (Int.tdiv a0 (6:Int)))) (3:Int)), ((Int.tmod (IntKind.wrap .i64 a1) (4:Int)), ((Int.tmod (IntKind.wrap .i64 (IntKind.wrap .u8 (Int.tdiv a1 (4:Int)))) (2:Int)), ((Int.tmod (IntKind.wrap .i64 (IntKind.wrap .u8 (Int.tdiv a1 (8:Int)))) (4:Int)), ((Int.tmod (IntKind.wrap .i64 (IntKind.wrap .u8 (Int.tdiv a1 (32:Int)))) (3:Int)), ((List.getD [(1008981770:Int), (1036831949:Int), (1065353216:Int), (981668463:Int)] x5 (0:Int)), ((List.getD [(0:Int), (1063675494:Int), (1056964608:Int)] ((0:Nat) + ((Int.toNat (Int.tmod (IntKind.wrap .u8 (Int.tdiv a2 (4:Int))) (3:Int))) * (1:Nat))) (0:Int)), ((List.getD [(1065336439:Int), (1063675494:Int)] ((0:Nat) + ((Int.toNat (Int.tmod (IntKind.wrap .u8 (Int.tdiv a2 (12:Int))) (2:Int))) * (1:Nat))) (0:Int)), ((List.getD [(841731191:Int), (981668463:Int)] ((0:Nat) + ((Int.toNat (Int.tmod (IntKind.wrap .u8 (Int.tdiv a2 (24:Int))) (2:Int))) * (1:Nat))) (0:Int)), ((List.getD [(0:Int), (1008981770:Int)] ((0:Nat) + ((Int.toNat (Int.tmod (IntKind.wrap .u8 (Int.tdiv a2 (48:Int))) (2:Int))) * (1:Nat))) (0:Int)), ((List.getD [(0:Int), (1065353216:Int), (1036831949:Int)] ((0:Nat) + ((Int.toNat (Int.tmod a3 (3:Int))) * (1:Nat))) (0:Int)), (x6, ((IntKind.wrap .i64 ((IntKind.wrap .i64 (x6 + (Int.tmod (IntKind.wrap .i64 a3) (17:Int)))) + (1:Int))), ((IntKind.wrap .i64 ((Int.tmod (IntKind.wrap .i64 (IntKind.wrap .u8 (Int.tdiv a3 (9:Int)))) (4:Int)) + (1:Int))), ((IntKind.wrap .i64 ((Int.tmod (IntKind.wrap .i64 (IntKind.wrap .u8 (Int.tdiv a3 (36:Int)))) (2:Int)) + (1:Int))), (a4, ((List.getD [(0:Int), (536870912:Int), (2147483647:Int), (0:Int)] x5 (0:Int)), (((Int.tmod a3 (5:Int)) == (0:Int)), ((IntKind.wrap .i64 (x1 + (Int.tmod (IntKind.wrap .i64 a2) x3))), (x1, (x2, ((IntKind.wrap .i64 (x1 + (1:Int))), ((IntKind.wrap .i64 ((Int.tmod (IntKind.wrap .i64 a2) (2:Int)) + (1:Int))), ((IntKind.wrap .i64 ((Int.tmod (IntKind.wrap .i64 a3) (3:Int)) + (1:Int))), ((Int.tmod (IntKind.wrap .i64 a0) (4:Int)), ())))))))))))))))))))))))))))
                                else
                                  none
                              else
                                none
                            else
                              none
                          else
                            none
                        else
                          none
                      else
                        none
                    else
                      none
                  else
                    none
                else
                  none
              else
                none
            else
              none
          else
            none
        else
          none
      else
        none
    else
      bif (Nat.beq x0 (1:Nat)) then
        bif (decide (((0:Int) ≤ (Int.tmod a2 (4:Int))) ∧ ((Int.tmod a2 (4:Int)) < (4:Int)))) then
          bif (decide (x5 < (4:Nat))) then
            bif (decide (((0:Int) ≤ (Int.tmod (IntKind.wrap .u8 (Int.tdiv a2 (4:Int))) (3:Int))) ∧ ((Int.tmod (IntKind.wrap .u8 (Int.tdiv a2 (4:Int))) (3:Int)) < (3:Int)))) then
              bif (decide (((0:Nat) + ((Int.toNat (Int.tmod (IntKind.wrap .u8 (Int.tdiv a2 (4:Int))) (3:Int))) * (1:Nat))) < (3:Nat))) then
                bif (decide (((0:Int) ≤ (Int.tmod (IntKind.wrap .u8 (Int.tdiv a2 (12:Int))) (2:Int))) ∧ ((Int.tmod (IntKind.wrap .u8 (Int.tdiv a2 (12:Int))) (2:Int)) < (2:Int)))) then
                  bif (decide (((0:Nat) + ((Int.toNat (Int.tmod (IntKind.wrap .u8 (Int.tdiv a2 (12:Int))) (2:Int))) * (1:Nat))) < (2:Nat))) then
                    bif (decide (((0:Int) ≤ (Int.tmod (IntKind.wrap .u8 (Int.tdiv a2 (24:Int))) (2:Int))) ∧ ((Int.tmod (IntKind.wrap .u8 (Int.tdiv a2 (24:Int))) (2:Int)) < (2:Int)))) then
                      bif (decide (((0:Nat) + ((Int.toNat (Int.tmod (IntKind.wrap .u8 (Int.tdiv a2 (24:Int))) (2:Int))) * (1:Nat))) < (2:Nat))) then
                        bif (decide (((0:Int) ≤ (Int.tmod (IntKind.wrap .u8 (Int.tdiv a2 (48:Int))) (2:Int))) ∧ ((Int.tmod (IntKind.wrap .u8 (Int.tdiv a2 (48:Int))) (2:Int)) < (2:Int)))) then
                          bif (decide (((0:Nat) + ((Int.toNat (Int.tmod (IntKind.wrap .u8 (Int.tdiv a2 (48:Int))) (2:Int))) * (1:Nat))) < (2:Nat))) then
                            bif (decide (((0:Int) ≤ (Int.tmod a3 (3:Int))) ∧ ((Int.tmod a3 (3:Int)) < (3:Int)))) then
                              bif (decide (((0:Nat) + ((Int.toNat (Int.tmod a3 (3:Int))) * (1:Nat))) < (3:Nat))) then
                                bif (decide (((0:Int) ≤ (Int.tmod a2 (4:Int))) ∧ ((Int.tmod a2 (4:Int)) < (4:Int)))) then
                                  bif (decide (x5 < (4:Nat))) then
                                    bif x4 then
                                      none
                                    else
                                      (some ([(3:Int), (2:Int), (2:Int)], ((Int.tmod (IntKind.wrap .i64 (IntKind.wrap .u8 (Int.tdiv a0 (6:Int)))) (3:Int)), ((Int.tmod (IntKind.wrap .i64 a1) (4:Int)), ((Int.tmod (IntKind.wrap .i64 (IntKind.wrap .u8 (Int.tdiv a1 (4:Int)))) (2:Int)), ((Int.tmod (IntKind.wrap .i64 (IntKind.wrap .u8 (Int.tdiv a1 (8:Int)))) (4:Int)), ((Int.tmod (IntKind.wrap .i64 (IntKind.wrap .u8 (Int.tdiv a1 (32:Int)))) (3:Int)), ((List.getD [(1008981770:Int), (1036831949:Int), (1065353216:Int), (981668463:Int)] x5 (0:Int)), ((List.getD [(0:Int), (1063675494:Int), (1056964608:Int)] ((0:Nat) + ((Int.toNat (Int.tmod (IntKind.wrap .u8 (Int.tdiv a2 (4:Int))) (3:Int))) * (1:Nat))) (0:Int)), ((List.getD [(1065336439:Int), (1063675494:Int)] ((0:Nat) + ((Int.toNat (Int.tmod (IntKind.wrap .u8 (Int.tdiv a2 (12:Int))) (2:Int))) * (1:Nat))) (0:Int)), ((List.getD [(841731191:Int), (981668463:Int)] ((0:Nat) + ((Int.toNat (Int.tmod (IntKind.wrap .u8 (Int.tdiv a2 (24:Int))) (2:Int))) * (1:Nat))) (0:Int)), ((List.getD [(0:Int), (1008981770:Int)] ((0:Nat) + ((Int.toNat (Int.tmod (IntKind.wrap .u8 (Int.tdiv a2 (48:Int))) (2:Int))) * (1:Nat))) (0:Int)), ((List.getD [(0:Int), (1065353216:Int), (1036831949:Int)] ((0:Nat) + ((Int.toNat (Int.tmod a3 (3:Int))) * (1:Nat))) (0:Int)), (x6, ((IntKind.wrap .i64 ((IntKind.wrap .i64 (x6 + (Int.tmod (IntKind.wrap .i64 a3) (17:Int)))) + (1:Int))), ((IntKind.wrap .i64 ((Int.tmod (IntKind.wrap .i64 (IntKind.wrap .u8 (Int.tdiv a3 (9:Int)))) (4:Int)) + (1:Int))), ((IntKind.wrap .i64 ((Int.tmod (IntKind.wrap .i64 (IntKind.wrap .u8 (Int.tdiv a3 (36:Int)))) (2:Int)) + (1:Int))), (a4, ((List.getD [(0:Int), (536870912:Int), (2147483647:Int), (0:Int)] x5 (0:Int)), (((Int.tmod a3 (5:Int)) == (0:Int)), ((IntKind.wrap .i64 (x1 + (Int.tmod (IntKind.wrap .i64 a2) x3))), (x1, (x2, ((IntKind.wrap .i64 (x1 + (1:Int))), ((IntKind.wrap .i64 ((Int.tmod (IntKind.wrap .i64 a2) (2:Int)) + (1:Int))), ((IntKind.wrap .i64 ((Int.tmod (IntKind.wrap .i64 a3) (3:Int)) + (1:Int))), ((Int.tmod (IntKind.wrap .i64 a0) (4:Int)), ())))))))))))))))))))))))))))
                                  else
                                    none
                                else
                                  none
                              else
                                none
                            else
                              none
                          else
                            none
                        else
                          none
                      else
                        none
                    else
                      none
                  else
                    none
                else
                  none
              else
                none
            else
              none
          else
            none
        else
          none
      else
        bif (Nat.beq x0 (2:Nat)) then
          bif (decide (((0:Int) ≤ (Int.tmod a2 (4:Int))) ∧ ((Int.tmod a2 (4:Int)) < (4:Int)))) then
            bif (decide (x5 < (4:Nat))) then
              bif (decide (((0:Int) ≤ (Int.tmod (IntKind.wrap .u8 (Int.tdiv a2 (4:Int))) (3:Int))) ∧ ((Int.tmod (IntKind.wrap .u8 (Int.tdiv a2 (4:Int))) (3:Int)) < (3:Int)))) then
                bif (decide (((0:Nat) + ((Int.toNat (Int.tmod (IntKind.wrap .u8 (Int.tdiv a2 (4:Int))) (3:Int))) * (1:Nat))) < (3:Nat))) then
                  bif (decide (((0:Int) ≤ (Int.tmod (IntKind.wrap .u8 (Int.tdiv a2 (12:Int))) (2:Int))) ∧ ((Int.tmod (IntKind.wrap .u8 (Int.tdiv a2 (12:Int))) (2:Int)) < (2:Int)))) then
                    bif (decide (((0:Nat) + ((Int.toNat (Int.tmod (IntKind.wrap .u8 (Int.tdiv a2 (12:Int))) (2:Int))) * (1:Nat))) < (2:Nat))) then
                      bif (decide (((0:Int) ≤ (Int.tmod (IntKind.wrap .u8 (Int.tdiv a2 (24:Int))) (2:Int))) ∧ ((Int.tmod (IntKind.wrap .u8 (Int.tdiv a2 (24:Int))) (2:Int)) < (2:Int)))) then
                        bif (decide (((0:Nat) + ((Int.toNat (Int.tmod (IntKind.wrap .u8 (Int.tdiv a2 (24:Int))) (2:Int))) * (1:Nat))) < (2:Nat))) then
                          bif (decide (((0:Int) ≤ (Int.tmod (IntKind.wrap .u8 (Int.tdiv a2 (48:Int))) (2:Int))) ∧ ((Int.tmod (IntKind.wrap .u8 (Int.tdiv a2 (48:Int))) (2:Int)) < (2:Int)))) then
                            bif (decide (((0:Nat) + ((Int.toNat (Int.tmod (IntKind.wrap .u8 (Int.tdiv a2 (48:Int))) (2:Int))) * (1:Nat))) < (2:Nat))) then
                              bif (decide (((0:Int) ≤ (Int.tmod a3 (3:Int))) ∧ ((Int.tmod a3 (3:Int)) < (3:Int)))) then
                                bif (decide (((0:Nat) + ((Int.toNat (Int.tmod a3 (3:Int))) * (1:Nat))) < (3:Nat))) then
                                  bif (decide (((0:Int) ≤ (Int.tmod a2 (4:Int))) ∧ ((Int.tmod a2 (4:Int)) < (4:Int)))) then
                                    bif (decide (x5 < (4:Nat))) then
                                      bif x4 then
                                        none
                                      else
                                        (some ([(2:Int), (4:Int), (3:Int)], ((Int.tmod (IntKind.wrap .i64 (IntKind.wrap .u8 (Int.tdiv a0 (6:Int)))) (3:Int)), ((Int.tmod (IntKind.wrap .i64 a1) (4:Int)), ((Int.tmod (IntKind.wrap .i64 (IntKind.wrap .u8 (Int.tdiv a1 (4:Int)))) (2:Int)), ((Int.tmod (IntKind.wrap .i64 (IntKind.wrap .u8 (Int.tdiv a1 (8:Int)))) (4:Int)), ((Int.tmod (IntKind.wrap .i64 (IntKind.wrap .u8 (Int.tdiv a1 (32:Int)))) (3:Int)), ((List.getD [(1008981770:Int), (1036831949:Int), (1065353216:Int), (981668463:Int)] x5 (0:Int)), ((List.getD [(0:Int), (1063675494:Int), (1056964608:Int)] ((0:Nat) + ((Int.toNat (Int.tmod (IntKind.wrap .u8 (Int.tdiv a2 (4:Int))) (3:Int))) * (1:Nat))) (0:Int)), ((List.getD [(1065336439:Int), (1063675494:Int)] ((0:Nat) + ((Int.toNat (Int.tmod (IntKind.wrap .u8 (Int.tdiv a2 (12:Int))) (2:Int))) * (1:Nat))) (0:Int)), ((List.getD [(841731191:Int), (981668463:Int)] ((0:Nat) + ((Int.toNat (Int.tmod (IntKind.wrap .u8 (Int.tdiv a2 (24:Int))) (2:Int))) * (1:Nat))) (0:Int)), ((List.getD [(0:Int), (1008981770:Int)] ((0:Nat) + ((Int.toNat (Int.tmod (IntKind.wrap .u8 (Int.tdiv a2 (48:Int))) (2:Int))) * (1:Nat))) (0:Int)), ((List.getD [(0:Int), (1065353216:Int), (1036831949:Int)] ((0:Nat) + ((Int.toNat (Int.tmod a3 (3:Int))) * (1:Nat))) (0:Int)), (x6, ((IntKind.wrap .i64 ((IntKind.wrap .i64 (x6 + (Int.tmod (IntKind.wrap .i64 a3) (17:Int)))) + (1:Int))), ((IntKind.wrap .i64 ((Int.tmod (IntKind.wrap .i64 (IntKind.wrap .u8 (Int.tdiv a3 (9:Int)))) (4:Int)) + (1:Int))), ((IntKind.wrap .i64 ((Int.tmod (IntKind.wrap .i64 (IntKind.wrap .u8 (Int.tdiv a3 (36:Int)))) (2:Int)) + (1:Int))), (a4, ((List.getD [(0:Int), (536870912:Int), (2147483647:Int), (0:Int)] x5 (0:Int)), (((Int.tmod a3 (5:Int)) == (0:Int)), ((IntKind.wrap .i64 (x1 + (Int.tmod (IntKind.wrap .i64 a2) x3))), (x1, (x2, ((IntKind.wrap .i64 (x1 + (1:Int))), ((IntKind.wrap .i64 ((Int.tmod (IntKind.wrap .i64 a2) (2:Int)) + (1:Int))), ((IntKind.wrap .i64 ((Int.tmod (IntKind.wrap .i64 a3) (3:Int)) + (1:Int))), ((Int.tmod (IntKind.wrap .i64 a0) (4:Int)), ())))))))))))))))))))))))))))
                                    else
                                      none
                                  else
                                    none
                                else
                                  none
                              else
                                none
                            else
                              none
                          else
                            none
                        else
                          none
                      else
                        none
                    else
                      none
                  else
                    none
                else
                  none
              else
                none
            else
              none
          else
            none
        else
          bif (Nat.beq x0 (3:Nat)) then
            bif (decide (((0:Int) ≤ (Int.tmod a2 (4:Int))) ∧ ((Int.tmod a2 (4:Int)) < (4:Int)))) then
              bif (decide (x5 < (4:Nat))) then
                bif (decide (((0:Int) ≤ (Int.tmod (IntKind.wrap .u8 (Int.tdiv a2 (4:Int))) (3:Int))) ∧ ((Int.tmod (IntKind.wrap .u8 (Int.tdiv a2 (4:Int))) (3:Int)) < (3:Int)))) then
                  bif (decide (((0:Nat) + ((Int.toNat (Int.tmod (IntKind.wrap .u8 (Int.tdiv a2 (4:Int))) (3:Int))) * (1:Nat))) < (3:Nat))) then
                    bif (decide (((0:Int) ≤ (Int.tmod (IntKind.wrap .u8 (Int.tdiv a2 (12:Int))) (2:Int))) ∧ ((Int.tmod (IntKind.wrap .u8 (Int.tdiv a2 (12:Int))) (2:Int)) < (2:Int)))) then
                      bif (decide (((0:Nat) + ((Int.toNat (Int.tmod (IntKind.wrap .u8 (Int.tdiv a2 (12:Int))) (2:Int))) * (1:Nat))) < (2:Nat))) then
                        bif (decide (((0:Int) ≤ (Int.tmod (IntKind.wrap .u8 (Int.tdiv a2 (24:Int))) (2:Int))) ∧ ((Int.tmod (IntKind.wrap .u8 (Int.tdiv a2 (24:Int))) (2:Int)) < (2:Int)))) then
                          bif (decide (((0:Nat) + ((Int.toNat (Int.tmod (IntKind.wrap .u8 (Int.tdiv a2 (24:Int))) (2:Int))) * (1:Nat))) < (2:Nat))) then
                            bif (decide (((0:Int) ≤ (Int.tmod (IntKind.wrap .u8 (Int.tdiv a2 (48:Int))) (2:Int))) ∧ ((Int.tmod (IntKind.wrap .u8 (Int.tdiv a2 (48:Int))) (2:Int)) < (2:Int)))) then
                              bif (decide (((0:Nat) + ((Int.toNat (Int.tmod (IntKind.wrap .u8 (Int.tdiv a2 (48:Int))) (2:Int))) * (1:Nat))) < (2:Nat))) then
                                bif (decide (((0:Int) ≤ (Int.tmod a3 (3:Int))) ∧ ((Int.tmod a3 (3:Int)) < (3:Int)))) then
                                  bif (decide (((0:Nat) + ((Int.toNat (Int.tmod a3 (3:Int))) * (1:Nat))) < (3:Nat))) then
                                    bif (decide (((0:Int) ≤ (Int.tmod a2 (4:Int))) ∧ ((Int.tmod a2 (4:Int)) < (4:Int)))) then
                                      bif (decide (x5 < (4:Nat))) then
                                        bif x4 then
                                          none
                                        else
                                          (some ([(1:Int), (2:Int), (2:Int), (2:Int)], ((Int.tmod (IntKind.wrap .i64 (IntKind.wrap .u8 (Int.tdiv a0 (6:Int)))) (3:Int)), ((Int.tmod (IntKind.wrap .i64 a1) (4:Int)), ((Int.tmod (IntKind.wrap .i64 (IntKind.wrap .u8 (Int.tdiv a1 (4:Int)))) (2:Int)), ((Int.tmod (IntKind.wrap .i64 (IntKind.wrap .u8 (Int.tdiv a1 (8:Int)))) (4:Int)), ((Int.tmod (IntKind.wrap .i64 (IntKind.wrap .u8 (Int.tdiv a1 (32:Int)))) (3:Int)), ((List.getD [(1008981770:Int), (1036831949:Int), (1065353216:Int), (981668463:Int)] x5 (0:Int)), ((List.getD [(0:Int), (1063675494:Int), (1056964608:Int)] ((0:Nat) + ((Int.toNat (Int.tmod (IntKind.wrap .u8 (Int.tdiv a2 (4:Int))) (3:Int))) * (1:Nat))) (0:Int)), ((List.getD [(1065336439:Int), (1063675494:Int)] ((0:Nat) + ((Int.toNat (Int.tmod (IntKind.wrap .u8 (Int.tdiv a2 (12:Int))) (2:Int))) * (1:Nat))) (0:Int)), ((List.getD [(841731191:Int), (981668463:Int)] ((0:Nat) + ((Int.toNat (Int.tmod (IntKind.wrap .u8 (Int.tdiv a2 (24:Int))) (2:Int))) * (1:Nat))) (0:Int)), ((List.getD [(0:Int), (1008981770:Int)] ((0:Nat) + ((Int.toNat (Int.tmod (IntKind.wrap .u8 (Int.tdiv a2 (48:Int))) (2:Int))) * (1:Nat))) (0:Int)), ((List.getD [(0:Int), (1065353216:Int), (1036831949:Int)] ((0:Nat) + ((Int.toNat (Int.tmod a3 (3:Int))) * (1:Nat))) (0:Int)), (x6, ((IntKind.wrap .i64 ((IntKind.wrap .i64 (x6 + (Int.tmod (IntKind.wrap .i64 a3) (17:Int)))) + (1:Int))), ((IntKind.wrap .i64 ((Int.tmod (IntKind.wrap .i64 (IntKind.wrap .u8 (Int.tdiv a3 (9:Int)))) (4:Int)) + (1:Int))), ((IntKind.wrap .i64 ((Int.tmod (IntKind.wrap .i64 (IntKind.wrap .u8 (Int.tdiv a3 (36:Int)))) (2:Int)) + (1:Int))), (a4, ((List.getD [(0:Int), (536870912:Int), (2147483647:Int), (0:Int)] x5 (0:Int)), (((Int.tmod a3 (5:Int)) == (0:Int)), ((IntKind.wrap .i64 (x1 + (Int.tmod (IntKind.wrap .i64 a2) x3))), (x1, (x2, ((IntKind.wrap .i64 (x1 + (1:Int))), ((IntKind.wrap .i64 ((Int.tmod (IntKind.wrap .i64 a2) (2:Int)) + (1:Int))), ((IntKind.wrap .i64 ((Int.tmod (IntKind.wrap .i64 a3) (3:Int)) + (1:Int))), ((Int.tmod (IntKind.wrap .i64 a0) (4:Int)), ())))))))))))))))))))))))))))
                                      else
                                        none
                                    else
                                      none
                                  else
                                    none
                                else
                                  none
                              else
                                none
                            else
                              none
                          else
                            none
                        else
                          none
                      else
                        none
                    else
                      none
                  else
                    none
                else
                  none
              else
                none
            else
              none
          else
            bif (Nat.beq x0 (4:Nat)) then
              bif (decide (((0:Int) ≤ (Int.tmod a2 (4:Int))) ∧ ((Int.tmod a2 (4:Int)) < (4:Int)))) then
                bif (decide (x5 < (4:Nat))) then
                  bif (decide (((0:Int) ≤ (Int.tmod (IntKind.wrap .u8 (Int.tdiv a2 (4:Int))) (3:Int))) ∧ ((Int.tmod (IntKind.wrap .u8 (Int.tdiv a2 (4:Int))) (3:Int)) < (3:Int)))) then
                    bif (decide (((0:Nat) + ((Int.toNat (Int.tmod (IntKind.wrap .u8 (Int.tdiv a2 (4:Int))) (3:Int))) * (1:Nat))) < (3:Nat))) then
                      bif (decide (((0:Int) ≤ (Int.tmod (IntKind.wrap .u8 (Int.tdiv a2 (12:Int))) (2:Int))) ∧ ((Int.tmod (IntKind.wrap .u8 (Int.tdiv a2 (12:Int))) (2:Int)) < (2:Int)))) then
                        bif (decide (((0:Nat) + ((Int.toNat (Int.tmod (IntKind.wrap .u8 (Int.tdiv a2 (12:Int))) (2:Int))) * (1:Nat))) < (2:Nat))) then
                          bif (decide (((0:Int) ≤ (Int.tmod (IntKind.wrap .u8 (Int.tdiv a2 (24:Int))) (2:Int))) ∧ ((Int.tmod (IntKind.wrap .u8 (Int.tdiv a2 (24:Int))) (2:Int)) < (2:Int)))) then
                            bif (decide (((0:Nat) + ((Int.toNat (Int.tmod (IntKind.wrap .u8 (Int.tdiv a2 (24:Int))) (2:Int))) * (1:Nat))) < (2:Nat))) then
                              bif (decide (((0:Int) ≤ (Int.tmod (IntKind.wrap .u8 (Int.tdiv a2 (48:Int))) (2:Int))) ∧ ((Int.tmod (IntKind.wrap .u8 (Int.tdiv a2 (48:Int))) (2:Int)) < (2:Int)))) then
                                bif (decide (((0:Nat) + ((Int.toNat (Int.tmod (IntKind.wrap .u8 (Int.tdiv a2 (48:Int))) (2:Int))) * (1:Nat))) < (2:Nat))) then
                                  bif (decide (((0:Int) ≤ (Int.tmod a3 (3:Int))) ∧ ((Int.tmod a3 (3:Int)) < (3:Int)))) then
                                    bif (decide (((0:Nat) + ((Int.toNat (Int.tmod a3 (3:Int))) * (1:Nat))) < (3:Nat))) then
                                      bif (decide (((0:Int) ≤ (Int.tmod a2 (4:Int))) ∧ ((Int.tmod a2 (4:Int)) < (4:Int)))) then
                                        bif (decide (x5 < (4:Nat))) then
                                          bif x4 then
                                            none
                                          else
                                            (some (x7, ((Int.tmod (IntKind.wrap .i64 (IntKind.wrap .u8 (Int.tdiv a0 (6:Int)))) (3:Int)), ((Int.tmod (IntKind.wrap .i64 a1) (4:Int)), ((Int.tmod (IntKind.wrap .i64 (IntKind.wrap .u8 (Int.tdiv a1 (4:Int)))) (2:Int)), ((Int.tmod (IntKind.wrap .i64 (IntKind.wrap .u8 (Int.tdiv a1 (8:Int)))) (4:Int)), ((Int.tmod (IntKind.wrap .i64 (IntKind.wrap .u8 (Int.tdiv a1 (32:Int)))) (3:Int)), ((List.getD [(1008981770:Int), (1036831949:Int), (1065353216:Int), (981668463:Int)] x5 (0:Int)), ((List.getD [(0:Int), (1063675494:Int), (1056964608:Int)] ((0:Nat) + ((Int.toNat (Int.tmod (IntKind.wrap .u8 (Int.tdiv a2 (4:Int))) (3:Int))) * (1:Nat))) (0:Int)), ((List.getD [(1065336439:Int), (1063675494:Int)] ((0:Nat) + ((Int.toNat (Int.tmod (IntKind.wrap .u8 (Int.tdiv a2 (12:Int))) (2:Int))) * (1:Nat))) (0:Int)), ((List.getD [(841731191:Int), (981668463:Int)] ((0:Nat) + ((Int.toNat (Int.tmod (IntKind.wrap .u8 (Int.tdiv a2 (24:Int))) (2:Int))) * (1:Nat))) (0:Int)), ((List.getD [(0:Int), (1008981770:Int)] ((0:Nat) + ((Int.toNat (Int.tmod (IntKind.wrap .u8 (Int.tdiv a2 (48:Int))) (2:Int))) * (1:Nat))) (0:Int)), ((List.getD [(0:Int), (1065353216:Int), (1036831949:Int)] ((0:Nat) + ((Int.toNat (Int.tmod a3 (3:Int))) * (1:Nat))) (0:Int)), (x6, ((IntKind.wrap .i64 ((IntKind.wrap .i64 (x6 + (Int.tmod (IntKind.wrap .i64 a3) (17:Int)))) + (1:Int))), ((IntKind.wrap .i64 ((Int.tmod (IntKind.wrap .i64 (IntKind.wrap .u8 (Int.tdiv a3 (9:Int)))) (4:Int)) + (1:Int))), ((IntKind.wrap .i64 ((Int.tmod (IntKind.wrap .i64 (IntKind.wrap .u8 (Int.tdiv a3 (36:Int)))) (2:Int)) + (1:Int))), (a4, ((List.getD [(0:Int), (536870912:Int), (2147483647:Int), (0:Int)] x5 (0:Int)), (((Int.tmod a3 (5:Int)) == (0:Int)), ((IntKind.wrap .i64 (x1 + (Int.tmod (IntKind.wrap .i64 a2) x3))), (x1, (x2, ((IntKind.wrap .i64 (x1 + (1:Int))), ((IntKind.wrap .i64 ((Int.tmod (IntKind.wrap .i64 a2) (2:Int)) + (1:Int))), ((IntKind.wrap .i64 ((Int.tmod (IntKind.wrap .i64 a3) (3:Int)) + (1:Int))), ((Int.tmod (IntKind.wrap .i64 a0) (4:Int)), ())))))))))))))))))))))))))))
                                        else
                                          none
                                      else
                                        none
                                    else
                                      none
                                  else
                                    none
                                else
                                  none
                              else
                                none
                            else
                              none
                          else
                            none
                        else
                          none
                      else
                        none
                    else
                      none
                  else
                    none
                else
                  none
              else
                none
            else
              bif (Nat.beq x0 (5:Nat)) then
                bif (decide (((0:Int) ≤ (Int.tmod a2 (4:Int))) ∧ ((Int.tmod a2 (4:Int)) < (4:Int)))) then
                  bif (decide (x5 < (4:Nat))) then
                    bif (decide (((0:Int) ≤ (Int.tmod (IntKind.wrap .u8 (Int.tdiv a2 (4:Int))) (3:Int))) ∧ ((Int.tmod (IntKind.wrap .u8 (Int.tdiv a2 (4:Int))) (3:Int)) < (3:Int)))) then
                      bif (decide (((0:Nat) + ((Int.toNat (Int.tmod (IntKind.wrap .u8 (Int.tdiv a2 (4:Int))) (3:Int))) * (1:Nat))) < (3:Nat))) then
                        bif (decide (((0:Int) ≤ (Int.tmod (IntKind.wrap .u8 (Int.tdiv a2 (12:Int))) (2:Int))) ∧ ((Int.tmod (IntKind.wrap .u8 (Int.tdiv a2 (12:Int))) (2:Int)) < (2:Int)))) then
                          bif (decide (((0:Nat) + ((Int.toNat (Int.tmod (IntKind.wrap .u8 (Int.tdiv a2 (12:Int))) (2:Int))) * (1:Nat))) < (2:Nat))) then
                            bif (decide (((0:Int) ≤ (Int.tmod (IntKind.wrap .u8 (Int.tdiv a2 (24:Int))) (2:Int))) ∧ ((Int.tmod (IntKind.wrap .u8 (Int.tdiv a2 (24:Int))) (2:Int)) < (2:Int)))) then
                              bif (decide (((0:Nat) + ((Int.toNat (Int.tmod (IntKind.wrap .u8 (Int.tdiv a2 (24:Int))) (2:Int))) * (1:Nat))) < (2:Nat))) then
                                bif (decide (((0:Int) ≤ (Int.tmod (IntKind.wrap .u8 (Int.tdiv a2 (48:Int))) (2:Int))) ∧ ((Int.tmod (IntKind.wrap .u8 (Int.tdiv a2 (48:Int))) (2:Int)) < (2:Int)))) then
                                  bif (decide (((0:Nat) + ((Int.toNat (Int.tmod (IntKind.wrap .u8 (Int.tdiv a2 (48:Int))) (2:Int))) * (1:Nat))) < (2:Nat))) then
                                    bif (decide (((0:Int) ≤ (Int.tmod a3 (3:Int))) ∧ ((Int.tmod a3 (3:Int)) < (3:Int)))) then
                                      bif (decide (((0:Nat) + ((Int.toNat (Int.tmod a3 (3:Int))) * (1:Nat))) < (3:Nat))) then
                                        bif (decide (((0:Int) ≤ (Int.tmod a2 (4:Int))) ∧ ((Int.tmod a2 (4:Int)) < (4:Int)))) then
                                          bif (decide (x5 < (4:Nat))) then
                                            bif x4 then
                                              none
                                            else
                                              (some ([(4:Int), (3:Int), (2:Int)], ((Int.tmod (IntKind.wrap .i64 (IntKind.wrap .u8 (Int.tdiv a0 (6:Int)))) (3:Int)), ((Int.tmod (IntKind.wrap .i64 a1) (4:Int)), ((Int.tmod (IntKind.wrap .i64 (IntKind.wrap .u8 (Int.tdiv a1 (4:Int)))) (2:Int)), ((Int.tmod (IntKind.wrap .i64 (IntKind.wrap .u8 (Int.tdiv a1 (8:Int)))) (4:Int)), ((Int.tmod (IntKind.wrap .i64 (IntKind.wrap .u8 (Int.tdiv a1 (32:Int)))) (3:Int)), ((List.getD [(1008981770:Int), (1036831949:Int), (1065353216:Int), (981668463:Int)] x5 (0:Int)), ((List.getD [(0:Int), (1063675494:Int), (1056964608:Int)] ((0:Nat) + ((Int.toNat (Int.tmod (IntKind.wrap .u8 (Int.tdiv a2 (4:Int))) (3:Int))) * (1:Nat))) (0:Int)), ((List.getD [(1065336439:Int), (1063675494:Int)] ((0:Nat) + ((Int.toNat (Int.tmod (IntKind.wrap .u8 (Int.tdiv a2 (12:Int))) (2:Int))) * (1:Nat))) (0:Int)), ((List.getD [(841731191:Int), (981668463:Int)] ((0:Nat) + ((Int.toNat (Int.tmod (IntKind.wrap .u8 (Int.tdiv a2 (24:Int))) (2:Int))) * (1:Nat))) (0:Int)), ((List.getD [(0:Int), (1008981770:Int)] ((0:Nat) + ((Int.toNat (Int.tmod (IntKind.wrap .u8 (Int.tdiv a2 (48:Int))) (2:Int))) * (1:Nat))) (0:Int)), ((List.getD [(0:Int), (1065353216:Int), (1036831949:Int)] ((0:Nat) + ((Int.toNat (Int.tmod a3 (3:Int))) * (1:Nat))) (0:Int)), (x6, ((IntKind.wrap .i64 ((IntKind.wrap .i64 (x6 + (Int.tmod (IntKind.wrap .i64 a3) (17:Int)))) + (1:Int))), ((IntKind.wrap .i64 ((Int.tmod (IntKind.wrap .i64 (IntKind.wrap .u8 (Int.tdiv a3 (9:Int)))) (4:Int)) + (1:Int))), ((IntKind.wrap .i64 ((Int.tmod (IntKind.wrap .i64 (IntKind.wrap .u8 (Int.tdiv a3 (36:Int)))) (2:Int)) + (1:Int))), (a4, ((List.getD [(0:Int), (536870912:Int), (2147483647:Int), (0:Int)] x5 (0:Int)), (((Int.tmod a3 (5:Int)) == (0:Int)), ((IntKind.wrap .i64 (x1 + (Int.tmod (IntKind.wrap .i64 a2) x3))), (x1, (x2, ((IntKind.wrap .i64 (x1 + (1:Int))), ((IntKind.wrap .i64 ((Int.tmod (IntKind.wrap .i64 a2) (2:Int)) + (1:Int))), ((IntKind.wrap .i64 ((Int.tmod (IntKind.wrap .i64 a3) (3:Int)) + (1:Int))), ((Int.tmod (IntKind.wrap .i64 a0) (4:Int)), ())))))))))))))))))))))))))))
                                          else
                                            none
                                        else
                                          none
                                      else
                                        none
                                    else
                                      none
                                  else
                                    none
                                else
                                  none
                              else
                                none
                            else
                              none
                          else
                            none
                        else
                          none
                      else
                        none
                    else
                      none
                  else
                    none
                else
                  none
              else
                bif (Nat.beq x0 (6:Nat)) then
                  none
                else
                  none
  else
    none
noncomputable def G_annealseat_Config : T fa_annealseat_Config → TH ha_annealseat_Config → Option (List Int × Int × Int × Int × Int × Int × Int × Int × Int × Int × Int × Int × Int × Int × Int × Int × Int × Int × Bool × Int × Int × Int × Int × Int × Int × Int × Unit) := fun x y => F_annealseat_Config x.1 x.2.1 x.2.2.1 x.2.2.2.1 x.2.2.2.2.1
noncomputable def c_annealseat_Config : Orc := ent i_annealseat_Config [] 0 (sp fa_annealseat_Config ha_annealseat_Config fr_annealseat_Config hr_annealseat_Config G_annealseat_Config out_annealseat_Config)
theorem ok_annealseat_Config : OrcOk PR c_annealseat_Config := fnT okO_annealseat_Config mixed p_annealseat_Config (by kernel_rfl) (by kernel_rfl) (L := L_annealseat_Config) (kp := false) (by kernel_rfl) (inn := inn_annealseat_Config) (out := out_annealseat_Config) (fun _ _ => rfl) (loopsL (l := []) (by kernel_rfl) trivial) (fun x y => by kernel_rfl)
noncomputable def O_scaler_Begin : Orc := orn
theorem okO_scaler_Begin : OrcOk PR O_scaler_Begin := (orn_ok _)
abbrev fa_scaler_Begin : Fm := (.pair (.agg (.pair (.si .i64) (.pair (.i .i64) (.pair (.i .i64) (.pair (.i .i64) (.pair (.i .i64) (.pair (.i .i64) (.pair (.i .u32) (.pair (.i .u32) (.pair (.i .u32) (.pair (.i .u32) (.pair (.i .u32) (.pair (.i .u32) (.pair (.i .i64) (.pair (.i .i64) (.pair (.i .i64) (.pair (.i .i64) (.pair (.i .u64) (.pair (.i .u32) (.pair .b (.pair (.i .i64) (.pair (.i .i64) (.pair (.i .i64) (.pair (.i .i64) (.pair (.i .i64) (.pair (.i .i64) (.pair (.i .i64) .unit))))))))))))))))))))))))))) .unit)
abbrev ha_scaler_Begin : List BF := []
abbrev fr_scaler_Begin : Fm := (.agg (.pair (.i .i64) (.pair (.i .i64) (.pair (.i .i64) (.pair (.i .i64) .unit)))))
abbrev hr_scaler_Begin : List BF := []
noncomputable def L_scaler_Begin : Lps := L0
def inn_scaler_Begin : T fr_scaler_Begin → TH hr_scaler_Begin → Int × Int × Int × Int × Unit := (fun z w => z)
def out_scaler_Begin : Int × Int × Int × Int × Unit → T fr_scaler_Begin × TH hr_scaler_Begin := fun r => (r, ())
noncomputable def F_scaler_Begin (a0 : List Int × Int × Int × Int × Int × Int × Int × Int × Int × Int × Int × Int × Int × Int × Int × Int × Int × Int × Bool × Int × Int × Int × Int × Int × Int × Int × Unit) : Option (Int × Int × Int × Int × Unit) :=
  let x0 : Int := a0.2.2.2.2.2.2.2.2.2.2.2.2.2.2.2.2.2.2.2.1
  (some (x0, ((0:Int), ((0:Int), ((0:Int), ())))))
noncomputable def G_scaler_Begin : T fa_scaler_Begin → TH ha_scaler_Begin → Option (Int × Int × Int × Int × Unit) := fun x y => F_scaler_Begin x.1
noncomputable def c_scaler_Begin : Orc := ent i_scaler_Begin [] 0 (sp fa_scaler_Begin ha_scaler_Begin fr_scaler_Begin hr_scaler_Begin G_scaler_Begin out_scaler_Begin)
theorem ok_scaler_Begin : OrcOk PR c_scaler_Begin := fnT okO_scaler_Begin mixed p_scaler_Begin (by kernel_rfl) (by kernel_rfl) (L := L_scaler_Begin) (kp := false) (by kernel_rfl) (inn := inn_scaler_Begin) (out := out_scaler_Begin) (fun _ _ => rfl) (loopsL (l := []) (by kernel_rfl) trivial) (fun x y => by kernel_rfl)
noncomputable def O_scaler_count : Orc := orn
theorem okO_scaler_count : OrcOk PR O_scaler_count := (orn_ok _)
abbrev fa_scaler_count : Fm := (.pair (.i .i64) .unit)
abbrev ha_scaler_count : List BF := []
abbrev fr_scaler_count : Fm := .b
abbrev hr_scaler_count : List BF := []
noncomputable def L_scaler_count : Lps := L0
def inn_scaler_count : T fr_scaler_count → TH hr_scaler_count → Bool := (fun z w => z)
def out_scaler_count : Bool → T fr_scaler_count × TH hr_scaler_count := fun r => (r, ())
noncomputable def F_scaler_count (a0 : Int) : Option (Bool) :=
  bif (decide (a0 ≥ (0:Int))) then
    (some (decide (a0 ≤ (4611686018427387904:Int))))
  else
    (some false)
noncomputable def G_scaler_count : T fa_scaler_count → TH ha_scaler_count → Option (Bool) := fun x y => F_scaler_count x.1
noncomputable def c_scaler_count : Orc := ent i_scaler_count [] 0 (sp fa_scaler_count ha_scaler_count fr_scaler_count hr_scaler_count G_scaler_count out_scaler_count)
theorem ok_scaler_count : OrcOk PR c_scaler_count := fnT okO_scaler_count mixed p_scaler_count (by kernel_rfl) (by kernel_rfl) (L := L_scaler_count) (kp := false) (by kernel_rfl) (inn := inn_scaler_count) (out := out_scaler_count) (fun _ _ => rfl) (loopsL (l := []) (by kernel_rfl) trivial) (fun x y => by kernel_rfl)
noncomputable def O_scaler_Right : Orc := c_scaler_count
theorem okO_scaler_Right : OrcOk PR O_scaler_Right := ok_scaler_count
abbrev fa_scaler_Right : Fm := (.pair (.agg (.pair (.si .i64) (.pair (.i .i64) (.pair (.i .i64) (.pair (.i .i64) (.pair (.i .i64) (.pair (.i .i64) (.pair (.i .u32) (.pair (.i .u32) (.pair (.i .u32) (.pair (.i .u32) (.pair (.i .u32) (.pair (.i .u32) (.pair (.i .i64) (.pair (.i .i64) (.pair (.i .i64) (.pair (.i .i64) (.pair (.i .u64) (.pair (.i .u32) (.pair .b (.pair (.i .i64) (.pair (.i .i64) (.pair (.i .i64) (.pair (.i .i64) (.pair (.i .i64) (.pair (.i .i64) (.pair (.i .i64) .unit))))))))))))))))))))))))))) (.pair (.agg (.pair (.i .i64) (.pair (.i .i64) (.pair (.i .i64) (.pair (.i .i64) .unit))))) .unit))
abbrev ha_scaler_Right : List BF := []
abbrev fr_scaler_Right : Fm := .b
abbrev hr_scaler_Right : List BF := []
noncomputable def L_scaler_Right : Lps := L0
def inn_scaler_Right : T fr_scaler_Right → TH hr_scaler_Right → Bool := (fun z w => z)
def out_scaler_Right : Bool → T fr_scaler_Right × TH hr_scaler_Right := fun r => (r, ())
noncomputable def F_scaler_Right (a0 : List Int × Int × Int × Int × Int × Int × Int × Int × Int × Int × Int × Int × Int × Int × Int × Int × Int × Int × Bool × Int × Int × Int × Int × Int × Int × Int × Unit) (a1 : Int × Int × Int × Int × Unit) : Option (Bool) :=
  let x0 : Int := a1.2.2.1
  let x1 : Int := a1.2.2.2.1
  bif (decide (a1.1 ≥ a0.2.2.2.2.2.2.2.2.2.2.2.2.2.2.2.2.2.2.2.2.1)) then
    bif (decide (a1.1 ≤ a0.2.2.2.2.2.2.2.2.2.2.2.2.2.2.2.2.2.2.2.2.2.1)) then
      bif (decide (a1.2.1 ≥ (0:Int))) then
        bif (decide (a1.2.1 < a0.2.2.2.2.2.2.2.2.2.2.2.2.2.2.2.2.2.2.2.2.2.2.2.2.1)) then
          ((F_scaler_count x0)).bind fun r2 =>
          bif r2 then
            ((F_scaler_count x1)).bind fun r3 =>
            bif r3 then
              (some (decide (x1 ≤ x0)))
            else
              (some false)
          else
            (some false)
        else
          (some false)
      else
        (some false)
    else
      (some false)
  else
    (some false)
noncomputable def G_scaler_Right : T fa_scaler_Right → TH ha_scaler_Right → Option (Bool) := fun x y => F_scaler_Right x.1 x.2.1
noncomputable def c_scaler_Right : Orc := ent i_scaler_Right [] 0 (sp fa_scaler_Right ha_scaler_Right fr_scaler_Right hr_scaler_Right G_scaler_Right out_scaler_Right)
theorem ok_scaler_Right : OrcOk PR c_scaler_Right := fnT okO_scaler_Right mixed p_scaler_Right (by kernel_rfl) (by kernel_rfl) (L := L_scaler_Right) (kp := false) (by kernel_rfl) (inn := inn_scaler_Right) (out := out_scaler_Right) (fun _ _ => rfl) (loopsL (l := []) (by kernel_rfl) trivial) (fun x y => by kernel_rfl)
noncomputable def O_scaler_Good : Orc := c_scaler_Right
theorem okO_scaler_Good : OrcOk PR O_scaler_Good := ok_scaler_Right
abbrev fa_scaler_Good : Fm := (.pair (.agg (.pair (.si .i64) (.pair (.i .i64) (.pair (.i .i64) (.pair (.i .i64) (.pair (.i .i64) (.pair (.i .i64) (.pair (.i .u32) (.pair (.i .u32) (.pair (.i .u32) (.pair (.i .u32) (.pair (.i .u32) (.pair (.i .u32) (.pair (.i .i64) (.pair (.i .i64) (.pair (.i .i64) (.pair (.i .i64) (.pair (.i .u64) (.pair (.i .u32) (.pair .b (.pair (.i .i64) (.pair (.i .i64) (.pair (.i .i64) (.pair (.i .i64) (.pair (.i .i64) (.pair (.i .i64) (.pair (.i .i64) .unit))))))))))))))))))))))))))) (.pair (.agg (.pair (.i .i64) (.pair (.i .i64) (.pair (.i .i64) (.pair (.i .i64) .unit))))) .unit))
abbrev ha_scaler_Good : List BF := []
abbrev fr_scaler_Good : Fm := (.agg (.pair (.i .i64) (.pair (.i .i64) (.pair (.i .i64) (.pair (.i .i64) .unit)))))
abbrev hr_scaler_Good : List BF := []
noncomputable def L_scaler_Good : Lps := L0
def inn_scaler_Good : T fr_scaler_Good → TH hr_scaler_Good → Int × Int × Int × Int × Unit := (fun z w => z)
def out_scaler_Good : Int × Int × Int × Int × Unit → T fr_scaler_Good × TH hr_scaler_Good := fun r => (r, ())
noncomputable def F_scaler_Good (a0 : List Int × Int × Int × Int × Int × Int × Int × Int × Int × Int × Int × Int × Int × Int × Int × Int × Int × Int × Bool × Int × Int × Int × Int × Int × Int × Int × Unit) (a1 : Int × Int × Int × Int × Unit) : Option (Int × Int × Int × Int × Unit) :=
  let x0 : Int := (IntKind.wrap .i64 (a1.2.1 + (1:Int)))
  let x1 : Int := a0.2.2.2.2.2.2.2.2.2.2.2.2.2.2.2.2.2.2.2.2.2.2.2.2.1
  let x2 : Int := a0.2.2.2.2.2.2.2.2.2.2.2.2.2.2.2.2.2.2.2.2.2.2.2.1
  let x3 : Int := a0.2.2.2.2.2.2.2.2.2.2.2.2.2.2.2.2.2.2.2.2.2.1
  let x4 : Int := a1.2.2.1
  ((F_scaler_Right ((List.take (List.length a0.1) a0.1), a0.2) a1)).bind fun r5 =>
  bif (!r5) then
    (some a1)
  else
    bif (x0 == x1) then
      (some ((mn (IntKind.wrap .i64 (a1.1 + x2)) x3), ((0:Int), (x4, ((0:Int), ())))))
    else
      (some (a1.1, (x0, (x4, ((0:Int), ())))))
noncomputable def G_scaler_Good : T fa_scaler_Good → TH ha_scaler_Good → Option (Int × Int × Int × Int × Unit) := fun x y => F_scaler_Good x.1 x.2.1
noncomputable def c_scaler_Good : Orc := ent i_scaler_Good [] 0 (sp fa_scaler_Good ha_scaler_Good fr_scaler_Good hr_scaler_Good G_scaler_Good out_scaler_Good)
theorem ok_scaler_Good : OrcOk PR c_scaler_Good := fnT okO_scaler_Good mixed p_scaler_Good (by kernel_rfl) (by kernel_rfl) (L := L_scaler_Good) (kp := false) (by kernel_rfl) (inn := inn_scaler_Good) (out := out_scaler_Good) (fun _ _ => rfl) (loopsL (l := []) (by kernel_rfl) trivial) (fun x y => by kernel_rfl)
noncomputable def O_scaler_Skip : Orc := c_scaler_Right
theorem okO_scaler_Skip : OrcOk PR O_scaler_Skip := ok_scaler_Right
abbrev fa_scaler_Skip : Fm := (.pair (.agg (.pair (.si .i64) (.pair (.i .i64) (.pair (.i .i64) (.pair (.i .i64) (.pair (.i .i64) (.pair (.i .i64) (.pair (.i .u32) (.pair (.i .u32) (.pair (.i .u32) (.pair (.i .u32) (.pair (.i .u32) (.pair (.i .u32) (.pair (.i .i64) (.pair (.i .i64) (.pair (.i .i64) (.pair (.i .i64) (.pair (.i .u64) (.pair (.i .u32) (.pair .b (.pair (.i .i64) (.pair (.i .i64) (.pair (.i .i64) (.pair (.i .i64) (.pair (.i .i64) (.pair (.i .i64) (.pair (.i .i64) .unit))))))))))))))))))))))))))) (.pair (.agg (.pair (.i .i64) (.pair (.i .i64) (.pair (.i .i64) (.pair (.i .i64) .unit))))) .unit))
abbrev ha_scaler_Skip : List BF := []
abbrev fr_scaler_Skip : Fm := (.agg (.pair (.i .i64) (.pair (.i .i64) (.pair (.i .i64) (.pair (.i .i64) .unit)))))
abbrev hr_scaler_Skip : List BF := []
noncomputable def L_scaler_Skip : Lps := L0
def inn_scaler_Skip : T fr_scaler_Skip → TH hr_scaler_Skip → Int × Int × Int × Int × Unit := (fun z w => z)
def out_scaler_Skip : Int × Int × Int × Int × Unit → T fr_scaler_Skip × TH hr_scaler_Skip := fun r => (r, ())
noncomputable def F_scaler_Skip (a0 : List Int × Int × Int × Int × Int × Int × Int × Int × Int × Int × Int × Int × Int × Int × Int × Int × Int × Int × Bool × Int × Int × Int × Int × Int × Int × Int × Unit) (a1 : Int × Int × Int × Int × Unit) : Option (Int × Int × Int × Int × Unit) :=
  let x0 : Int := a0.2.2.2.2.2.2.2.2.2.2.2.2.2.2.2.2.2.2.2.2.2.2.1
  let x1 : Int := a0.2.2.2.2.2.2.2.2.2.2.2.2.2.2.2.2.2.2.2.2.1
  let x2 : Int := a1.2.2.1
  let x3 : Int := a1.2.2.2.1
  ((F_scaler_Right ((List.take (List.length a0.1) a0.1), a0.2) a1)).bind fun r4 =>
  bif (!r4) then
    (some a1)
  else
    (some ((mx (IntKind.wrap .i64 (a1.1 - x0)) x1), ((0:Int), ((mn (IntKind.wrap .i64 (x2 + (1:Int))) (4611686018427387904:Int)), ((mn (IntKind.wrap .i64 (x3 + (1:Int))) (4611686018427387904:Int)), ())))))
noncomputable def G_scaler_Skip : T fa_scaler_Skip → TH ha_scaler_Skip → Option (Int × Int × Int × Int × Unit) := fun x y => F_scaler_Skip x.1 x.2.1
noncomputable def c_scaler_Skip : Orc := ent i_scaler_Skip [] 0 (sp fa_scaler_Skip ha_scaler_Skip fr_scaler_Skip hr_scaler_Skip G_scaler_Skip out_scaler_Skip)
theorem ok_scaler_Skip : OrcOk PR c_scaler_Skip := fnT okO_scaler_Skip mixed p_scaler_Skip (by kernel_rfl) (by kernel_rfl) (L := L_scaler_Skip) (kp := false) (by kernel_rfl) (inn := inn_scaler_Skip) (out := out_scaler_Skip) (fun _ _ => rfl) (loopsL (l := []) (by kernel_rfl) trivial) (fun x y => by kernel_rfl)
noncomputable def O_anneallaw22_known : Orc := (orm c_annealseat_Config (orm c_scaler_Begin (orm c_scaler_Skip c_scaler_Good)))
theorem okO_anneallaw22_known : OrcOk PR O_anneallaw22_known := (orm_ok ok_annealseat_Config (orm_ok ok_scaler_Begin (orm_ok ok_scaler_Skip ok_scaler_Good)))
abbrev fa_anneallaw22_known : Fm := .unit
abbrev ha_anneallaw22_known : List BF := []
abbrev fr_anneallaw22_known : Fm := .b
abbrev hr_anneallaw22_known : List BF := []
noncomputable def L_anneallaw22_known : Lps := L0
def inn_anneallaw22_known : T fr_anneallaw22_known → TH hr_anneallaw22_known → Bool := (fun z w => z)
def out_anneallaw22_known : Bool → T fr_anneallaw22_known × TH hr_anneallaw22_known := fun r => (r, ())
noncomputable def F_anneallaw22_known  : Option (Bool) :=
  (some true)
noncomputable def G_anneallaw22_known : T fa_anneallaw22_known → TH ha_anneallaw22_known → Option (Bool) := fun x y => F_anneallaw22_known 
noncomputable def c_anneallaw22_known : Orc := ent i_anneallaw22_known [] 0 (sp fa_anneallaw22_known ha_anneallaw22_known fr_anneallaw22_known hr_anneallaw22_known G_anneallaw22_known out_anneallaw22_known)
theorem ok_anneallaw22_known : OrcOk PR c_anneallaw22_known := fnT okO_anneallaw22_known mixed p_anneallaw22_known (by kernel_rfl) (by kernel_rfl) (L := L_anneallaw22_known) (kp := false) (by kernel_rfl) (inn := inn_anneallaw22_known) (out := out_anneallaw22_known) (fun _ _ => rfl) (loopsL (l := []) (by kernel_rfl) trivial) (fun x y => by kernel_rfl)
noncomputable def O_anneallaw22_ScalerPlays : Orc := (orm c_anneallaw22_known (orm c_annealseat_Config (orm c_scaler_Begin (orm c_scaler_Good (orm c_scaler_Skip c_scaler_Right)))))
theorem okO_anneallaw22_ScalerPlays : OrcOk PR O_anneallaw22_ScalerPlays := (orm_ok ok_anneallaw22_known (orm_ok ok_annealseat_Config (orm_ok ok_scaler_Begin (orm_ok ok_scaler_Good (orm_ok ok_scaler_Skip ok_scaler_Right)))))
abbrev fa_anneallaw22_ScalerPlays : Fm := (.pair (.i .u8) (.pair (.i .u8) (.pair (.i .u8) (.pair (.i .u8) (.pair (.sr .b 1) .unit)))))
abbrev ha_anneallaw22_ScalerPlays : List BF := []
abbrev fr_anneallaw22_ScalerPlays : Fm := .b
abbrev hr_anneallaw22_ScalerPlays : List BF := []
abbrev ff_anneallaw22_ScalerPlays_0 : Fm := (.us 4 (.pair (.sr .b 1) (.us 6 (.cst (.ref 0 1 0) (.cst (.ref 1 1 0) (.pair (.i .i64) (.pair (.i .i64) (.pair (.i .i64) (.pair (.i .i64) (.pair (.i .i64) (.us 67 .unit)))))))))))
abbrev hf_anneallaw22_ScalerPlays_0 : List BF := [(.list 1 y_api_Config true (.pair (.si .i64) (.pair (.i .i64) (.pair (.i .i64) (.pair (.i .i64) (.pair (.i .i64) (.pair (.i .i64) (.pair (.i .u32) (.pair (.i .u32) (.pair (.i .u32) (.pair (.i .u32) (.pair (.i .u32) (.pair (.i .u32) (.pair (.i .i64) (.pair (.i .i64) (.pair (.i .i64) (.pair (.i .i64) (.pair (.i .u64) (.pair (.i .u32) (.pair .b (.pair (.i .i64) (.pair (.i .i64) (.pair (.i .i64) (.pair (.i .i64) (.pair (.i .i64) (.pair (.i .i64) (.pair (.i .i64) .unit))))))))))))))))))))))))))), (.list 1 y_api_Scale true (.pair (.i .i64) (.pair (.i .i64) (.pair (.i .i64) (.pair (.i .i64) .unit)))))]
abbrev X_anneallaw22_ScalerPlays_0 : Xs := (.alt (.exit 0) [] (.us 85 .unit) [] (.one .ret [10] (.us 10 (.pair .b (.us 74 .unit))) []))
abbrev S_anneallaw22_ScalerPlays_0 : Type := T ff_anneallaw22_ScalerPlays_0 × TH hf_anneallaw22_ScalerPlays_0
abbrev E_anneallaw22_ScalerPlays_0 : Type := TX X_anneallaw22_ScalerPlays_0
noncomputable def LB_anneallaw22_ScalerPlays_0 : Lps := L0
noncomputable def st_anneallaw22_ScalerPlays_0 : StepT S_anneallaw22_ScalerPlays_0 E_anneallaw22_ScalerPlays_0 := fun R v kn ko =>
  let x0 : List (T Fm.b) := v.1.1
  let x1 : Int := v.1.2.2.2.2.2.1
  let x2 : List Int := v.2.1.1
  let x3 : Int := (IntKind.wrap .i64 (v.1.2.2.1 + (1:Int)))
  let x4 : Int := v.1.2.1
  let x5 : Int := (mn (IntKind.wrap .i64 (x4 + v.2.1.2.2.2.2.2.2.2.2.2.2.2.2.2.2.2.2.2.2.2.2.2.2.2.1)) v.2.1.2.2.2.2.2.2.2.2.2.2.2.2.2.2.2.2.2.2.2.2.2.1)
  let x6 : Int := v.1.2.2.2.1
  let x7 : Nat := (List.length x0)
  let x9 : Bool := (((allR x7 (fun j8 => true)) && true) && true)
  let x11 : List (T Fm.b) := (rowsOf x7 (fun j10 => (List.getD x0 j10 false)))
  let x12 : Int := (mx (IntKind.wrap .i64 (x4 - v.2.1.2.2.2.2.2.2.2.2.2.2.2.2.2.2.2.2.2.2.2.2.2.2.1)) v.2.1.2.2.2.2.2.2.2.2.2.2.2.2.2.2.2.2.2.2.2.2.1)
  let x13 : Int := (IntKind.wrap .i64 (x6 + (1:Int)))
  let x14 : Int := (IntKind.wrap .i64 (v.1.2.2.2.2.1 + (1:Int)))
  bif (decide (x1 < ((x7 : Nat) : Int))) then
    bif (decide (((0:Int) ≤ x1) ∧ (x1 < ((x7 : Nat) : Int)))) then
      bif (List.getD x0 (Int.toNat x1) false) then
        ((F_scaler_Good ((List.take (List.length x2) x2), v.2.1.2) v.2.2.1)).bind fun r15 =>
        let x16 : Int := r15.2.2.1
        let x17 : Int := r15.2.2.2.1
        let x18 : Bool := ((x16 == x6) && ((x17 == (0:Int)) && true))
        bif (x3 == v.2.1.2.2.2.2.2.2.2.2.2.2.2.2.2.2.2.2.2.2.2.2.2.2.2.2.1) then
          bif (!((r15.1 == x5) && ((r15.2.1 == (0:Int)) && x18))) then
            (ko (Sum.inr ((false, ()), ())))
          else
            ((F_scaler_Right ((List.take (List.length x2) x2), v.2.1.2) r15)).bind fun r19 =>
            bif (!r19) then
              (ko (Sum.inr ((false, ()), ())))
            else
              bif x9 then
                (kn ((x11, (x5, ((0:Int), (x6, ((0:Int), ((IntKind.wrap .i64 (x1 + (1:Int))), ())))))), (((List.take (List.length x2) x2), v.2.1.2), (r15, ()))))
              else
                none
        else
          bif (!((r15.1 == x4) && ((r15.2.1 == x3) && x18))) then
            (ko (Sum.inr ((false, ()), ())))
          else
            ((F_scaler_Right ((List.take (List.length x2) x2), v.2.1.2) r15)).bind fun r20 =>
            bif (!r20) then
              (ko (Sum.inr ((false, ()), ())))
            else
              bif x9 then
                (kn ((x11, (x4, (x3, (x6, ((0:Int), ((IntKind.wrap .i64 (x1 + (1:Int))), ())))))), (((List.take (List.length x2) x2), v.2.1.2), (r15, ()))))
              else
                none
      else
        ((F_scaler_Skip ((List.take (List.length x2) x2), v.2.1.2) v.2.2.1)).bind fun r21 =>
        let x22 : Int := r21.2.2.1
        let x23 : Int := r21.2.2.2.1
        bif (!((r21.1 == x12) && ((r21.2.1 == (0:Int)) && ((x22 == x13) && ((x23 == x14) && true))))) then
          (ko (Sum.inr ((false, ()), ())))
        else
          ((F_scaler_Right ((List.take (List.length x2) x2), v.2.1.2) r21)).bind fun r24 =>
          bif (!r24) then
            (ko (Sum.inr ((false, ()), ())))
          else
            bif x9 then
              (kn ((x11, (x12, ((0:Int), (x13, (x14, ((IntKind.wrap .i64 (x1 + (1:Int))), ())))))), (((List.take (List.length x2) x2), v.2.1.2), (r21, ()))))
            else
              none
    else
      none
  else
    (ko (Sum.inl ((), ())))
noncomputable def ls_anneallaw22_ScalerPlays_0 : St → LTr := (lsum ff_anneallaw22_ScalerPlays_0 hf_anneallaw22_ScalerPlays_0 X_anneallaw22_ScalerPlays_0 Prod.mk id st_anneallaw22_ScalerPlays_0 (hd [] [] [4, 11, 12, 13, 14, 15, 16, 17] 0))
theorem lp_anneallaw22_ScalerPlays_0 : LoopOk PR 0 (lpN f_anneallaw22_ScalerPlays 0) ls_anneallaw22_ScalerPlays_0 := loopT okO_anneallaw22_ScalerPlays mixed (L := LB_anneallaw22_ScalerPlays_0) (d := 1) (bs := []) (ks := [4, 11, 12, 13, 14, 15, 16, 17]) (loopsL (l := []) (by kernel_rfl) trivial) (by kernel_rfl) (inS := Prod.mk) (outS := id) (fun _ _ => rfl) (inX := id) (outX := id) (fun _ => rfl) (fun v R kn ko => by kernel_rfl) (hd_wk [] [] [4, 11, 12, 13, 14, 15, 16, 17] 0)
noncomputable def L_anneallaw22_ScalerPlays : Lps := (lpB 10 (.by_ ls_anneallaw22_ScalerPlays_0) L0)
def inn_anneallaw22_ScalerPlays : T fr_anneallaw22_ScalerPlays → TH hr_anneallaw22_ScalerPlays → Bool := (fun z w => z)
def out_anneallaw22_ScalerPlays : Bool → T fr_anneallaw22_ScalerPlays × TH hr_anneallaw22_ScalerPlays := fun r => (r, ())
noncomputable def F_anneallaw22_ScalerPlays (a0 : Int) (a1 : Int) (a2 : Int) (a3 : Int) (a4 : List (Bool)) : Option (Bool) :=
  bif (decide ((((List.length a4) : Nat) : Int) > (100:Int))) then
    (some true)
  else
    ((F_annealseat_Config a0 a1 a2 a3 (1:Int))).bind fun r0 =>
    let x1 : Int := r0.2.2.2.2.2.2.2.2.2.2.2.2.2.2.2.2.2.2.2.1
    bif (((allR (List.length a4) (fun j2 => true)) && true) && true) then
      ((lim st_anneallaw22_ScalerPlays_0 (((rowsOf (List.length a4) (fun j3 => (List.getD a4 j3 false))), (x1, ((0:Int), ((0:Int), ((0:Int), ((0:Int), ())))))), (((List.take (List.length r0.1) r0.1), r0.2), ((x1, ((0:Int), ((0:Int), ((0:Int), ())))), ()))))).bind fun r4 =>
      els (fun l5 =>
        (some true)) (fun r6 =>
        (some r6.1.1)) r4
    else
      none
noncomputable def G_anneallaw22_ScalerPlays : T fa_anneallaw22_ScalerPlays → TH ha_anneallaw22_ScalerPlays → Option (Bool) := fun x y => F_anneallaw22_ScalerPlays x.1 x.2.1 x.2.2.1 x.2.2.2.1 x.2.2.2.2.1
noncomputable def c_anneallaw22_ScalerPlays : Orc := ent i_anneallaw22_ScalerPlays [] 0 (sp fa_anneallaw22_ScalerPlays ha_anneallaw22_ScalerPlays fr_anneallaw22_ScalerPlays hr_anneallaw22_ScalerPlays G_anneallaw22_ScalerPlays out_anneallaw22_ScalerPlays)
theorem ok_anneallaw22_ScalerPlays : OrcOk PR c_anneallaw22_ScalerPlays := fnT okO_anneallaw22_ScalerPlays mixed p_anneallaw22_ScalerPlays (by kernel_rfl) (by kernel_rfl) (L := L_anneallaw22_ScalerPlays) (kp := false) (by kernel_rfl) (inn := inn_anneallaw22_ScalerPlays) (out := out_anneallaw22_ScalerPlays) (fun _ _ => rfl) (loopsL (l := [((lpN f_anneallaw22_ScalerPlays 0), ls_anneallaw22_ScalerPlays_0)]) (by kernel_rfl) ⟨lp_anneallaw22_ScalerPlays_0, trivial⟩) (fun x y => by kernel_rfl)
end Go.Proofs.Ytcpicekmnkjceaa.VI
