/- Calls of this program that bear no variable, reckoned by the evaluator, and told ahead: printed by a program. -/
import Derived.Test.YtlkccnhkenmkdaaGreatDoorBo2
namespace Go.Proofs.YtlkccnhkenmkdaaGreatDoor
set_option linter.unusedVariables false
variable {mx : Int}
noncomputable def bob11_1 : Option Blk := some (.cells (fapp (frep 97 (.int 255 0)) (fapp [.int 255 1, .int 255 2] (fapp (frep 157 (.int 255 0)) [.slo 24 0 7 7 1 false, .slo 25 0 7 7 1 false]))) 149)
noncomputable def bob11_2 : Option Blk := some (.map [.int 9223372036854775807 0, .int 9223372036854775807 1, .int 9223372036854775807 2, .int 9223372036854775807 3, .int 9223372036854775807 4, .int 9223372036854775807 5, .int 9223372036854775807 6] [.int 9223372036854775807 0, .int 9223372036854775807 1, .int 9223372036854775807 2, .int 9223372036854775807 3, .int 9223372036854775807 4, .int 9223372036854775807 5, .int 9223372036854775807 6])
noncomputable def bob11_3 : Option Blk := some (.cells [.slo 16 0 3 3 1 true, .slo 17 0 3 3 1 true, .slo 18 0 3 3 1 true, .slo 19 0 3 3 1 true, .slo 20 0 3 3 1 true, .slo 21 0 3 3 1 true, .slo 23 0 3 3 1 true] 86)
noncomputable def bob11_4 : Option Blk := some (.cells [.slo 29 0 3 3 1 false, .slo 30 0 3 3 1 false, .slo 31 0 3 3 1 false, .slo 32 0 3 3 1 false, .slo 33 0 3 3 1 false, .slo 34 0 3 3 1 false, .slo 35 0 3 3 1 false] 0)
noncomputable def bob11_5 : Option Blk := some (.cells (fapp (frep 97 (.int 255 0)) (fapp [.int 255 1, .int 255 2] (fapp (frep 157 (.int 255 0)) [.slo 26 0 7 7 1 true, .slo 25 0 7 7 1 false]))) 149)
noncomputable def bob11_6 : Option Blk := some (.map [.str [0, 0, 0, 0, 0, 0, 0, 0, 0, 0, 0, 0, 0, 0], .str [0, 2, 0, 3, 0, 4, 0, 6, 0, 0, 0, 7, 0, 0], .str [0, 0, 0, 0, 0, 5, 0, 5, 0, 0, 0, 5, 0, 5]] [.int 255 0, .int 255 1, .int 255 2])
noncomputable def bob11_7 : Option Blk := some (.cells [.int 9223372036854775807 (-1), .int 9223372036854775807 1, .int 9223372036854775807 (-1)] 4)
noncomputable def bob11_8 : Option Blk := some (.cells [.int 9223372036854775807 (-1), .int 9223372036854775807 2, .int 9223372036854775807 (-1)] 4)
noncomputable def bob11_9 : Option Blk := some (.cells [.int 9223372036854775807 (-1), .int 9223372036854775807 3, .int 9223372036854775807 4] 4)
noncomputable def bob11_10 : Option Blk := some (.cells [.int 9223372036854775807 (-1), .int 9223372036854775807 5, .int 9223372036854775807 4] 4)
noncomputable def bob11_11 : Option Blk := some (.cells [.int 9223372036854775807 (-1), .int 9223372036854775807 (-1), .int 9223372036854775807 (-1)] 4)
noncomputable def bob11_12 : Option Blk := some (.cells [.int 9223372036854775807 (-1), .int 9223372036854775807 6, .int 9223372036854775807 4] 4)
noncomputable def bob11_13 : Option Blk := some (.cells [.int 9223372036854775807 (-1), .int 9223372036854775807 (-1), .int 9223372036854775807 4] 4)
noncomputable def bob11_14 : Option Blk := some (.cells [.int 9223372036854775807 0, .int 9223372036854775807 0, .int 9223372036854775807 0, .int 9223372036854775807 0, .int 9223372036854775807 0, .int 9223372036854775807 0, .int 9223372036854775807 0] 4)
noncomputable def bop11 : Ent := ([.pto 13 0], [bob10_2, bob8_2, bob10_3, bob9_9, bob9_11, bob9_13, bob9_16, bob9_18, bob9_19, bob9_22, bob10_4, bob9_24, bob10_9, bob11_1, bob11_2, bob9_6, bob9_9, bob9_11, bob9_13, bob9_16, bob9_18, bob9_19, bob10_9, bob9_22, bob11_3, bob9_24], .pto 27 0, [bob10_2, bob8_2, bob10_3, bob9_9, bob9_11, bob9_13, bob9_16, bob9_18, bob9_19, bob9_22, bob10_4, bob9_24, bob10_9, bob11_1, bob11_2, bob9_6, bob9_9, bob9_11, bob9_13, bob9_16, bob9_18, bob9_19, bob10_9, bob9_22, bob11_3, bob9_24, bob11_4, bob11_5, bob11_6, bob11_7, bob11_8, bob11_9, bob11_10, bob11_11, bob11_12, bob11_13, bob11_14, bob9_6, none, bob9_6, none, bob9_6, none, bob9_6, none, bob9_6, none, bob9_6, none, bob9_6, bob11_14])
set_option maxRecDepth 1000000 in
theorem bom11 (X : CxOk Tryz.prog (CT mx)) : RunAt Tryz.prog (CT mx) 190 bop11.1 bop11.2.1 bop11.2.2.1 bop11.2.2.2 := RunAt.of_gl (by rfl) (runG_ok ((X.told (boT7_ok X)).heard ((boH8_ok X).of_gl rfl)) 4000 190 bop11.1 bop11.2.1 bop11.2.2.1 bop11.2.2.2 (by kernel_rfl))
end Go.Proofs.YtlkccnhkenmkdaaGreatDoor
