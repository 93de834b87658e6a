/- Calls of this program that bear no variable, reckoned by the evaluator, and told ahead: printed by a program. -/
import Derived.Test.YtlkccnhkenmkdaaGreatDoorBo4
namespace Go.Proofs.YtlkccnhkenmkdaaGreatDoor
set_option linter.unusedVariables false
variable {mx : Int}
noncomputable def bov13_1 : AV := .ptp (fapp (frep 97 (.int 255 0)) (fapp [.int 255 1, .int 255 2] (fapp (frep 157 (.int 255 0)) [.slp [.slp [.int 9223372036854775807 (-1), .int 9223372036854775807 1, .int 9223372036854775807 (-1)] 3, .slp [.int 9223372036854775807 (-1), .int 9223372036854775807 2, .int 9223372036854775807 (-1)] 3, .slp [.int 9223372036854775807 (-1), .int 9223372036854775807 3, .int 9223372036854775807 4] 3, .slp [.int 9223372036854775807 (-1), .int 9223372036854775807 5, .int 9223372036854775807 4] 3, .slp [.int 9223372036854775807 (-1), .int 9223372036854775807 (-1), .int 9223372036854775807 (-1)] 3, .slp [.int 9223372036854775807 (-1), .int 9223372036854775807 6, .int 9223372036854775807 4] 3, .slp [.int 9223372036854775807 (-1), .int 9223372036854775807 (-1), .int 9223372036854775807 4] 3] 7, .slp [.bool false, .bool false, .bool false, .bool false, .bool true, .bool false, .bool false] 7]))) 0
noncomputable def bop13 : List AV × AV := ([bov13_1], .bool false)
set_option maxRecDepth 1000000 in
theorem bom13 (X : CxOk Tryz.prog (CT mx)) : MemoOk Tryz.prog (CT mx) 135 bop13.1 bop13.2 := MemoOk.of_gl (by rfl) (memo_of_runG ((X.told (boT7_ok X)).heard ((boH11_ok X).of_gl rfl)) (n := 4000) (f := 135) (args := bop13.1) (v := bop13.2) (by kernel_rfl) (by kernel_rfl))
end Go.Proofs.YtlkccnhkenmkdaaGreatDoor
