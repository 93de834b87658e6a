/- Calls of this program that bear no variable, reckoned by the evaluator, and told ahead: printed by a program. -/
import Derived.Test.YtlkccnhkenmkdaaGreatDoorBo3
namespace Go.Proofs.YtlkccnhkenmkdaaGreatDoor
set_option linter.unusedVariables false
variable {mx : Int}
noncomputable def bob12_1 : Option Blk := some (.cells [.slo 28 0 3 3 1 false, .slo 29 0 3 3 1 false, .slo 30 0 3 3 1 false, .slo 31 0 3 3 1 false, .slo 32 0 3 3 1 false, .slo 33 0 3 3 1 false, .slo 34 0 3 3 1 false] 0)
noncomputable def boH11 : BT (List Ent) := (.nd 190 (.nd 188 (.lf 158 [bop9]) (.lf 188 [bop10])) (.nd 201 (.lf 190 [bop11]) (.lf 201 [bop8])))
theorem boH11_ok (X : CxOk Tryz.prog (CT mx)) : EntsOk Tryz.prog (CT mx) boH11 := ⟨⟨(List.forall_mem_cons.2 ⟨bom9 X, (fun _ h => nomatch h)⟩), (List.forall_mem_cons.2 ⟨bom10 X, (fun _ h => nomatch h)⟩)⟩, ⟨(List.forall_mem_cons.2 ⟨bom11 X, (fun _ h => nomatch h)⟩), (List.forall_mem_cons.2 ⟨bom8 X, (fun _ h => nomatch h)⟩)⟩⟩
noncomputable def bop12 : Ent := ([.pto 2 0], [bob10_2, bob8_2, bob10_3, bob9_9, bob9_11, bob9_13, bob9_16, bob9_18, bob9_19, bob9_22, bob10_4, bob9_24], .pto 27 0, [bob10_2, bob8_2, bob10_3, bob9_9, bob9_11, bob9_13, bob9_16, bob9_18, bob9_19, bob9_22, bob10_4, bob9_24, bob10_9, bob11_1, bob11_2, bob9_6, bob9_9, bob9_11, bob9_13, bob9_16, bob9_18, bob9_19, bob10_9, bob9_22, bob11_3, bob9_24, bob12_1, bob11_5, bob11_7, bob11_8, bob11_9, bob11_10, bob11_11, bob11_12, bob11_13])
set_option maxRecDepth 1000000 in
theorem bom12 (X : CxOk Tryz.prog (CT mx)) : RunAt Tryz.prog (CT mx) 159 bop12.1 bop12.2.1 bop12.2.2.1 bop12.2.2.2 := RunAt.of_gl (by rfl) (runG_ok ((X.told (boT7_ok X)).heard ((boH11_ok X).of_gl rfl)) 4000 159 bop12.1 bop12.2.1 bop12.2.2.1 bop12.2.2.2 (by kernel_rfl))
end Go.Proofs.YtlkccnhkenmkdaaGreatDoor
