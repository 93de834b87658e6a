/- Calls of this program that bear no variable, reckoned by the evaluator, and told ahead: printed by a program. -/
import Derived.Test.YtlkccnhkenmkdaaGreatDoorBo6
namespace Go.Proofs.YtlkccnhkenmkdaaGreatDoor
set_option linter.unusedVariables false
variable {mx : Int}
noncomputable def bob20_1 : Option Blk := some (.cells (fapp (frep 122 (.int 255 0)) (fapp [.int 255 1] (fapp (frep 133 (.int 255 0)) [.slo 20 0 2 2 1 false, .slo 22 0 2 2 1 false]))) 149)
noncomputable def bob20_2 : Option Blk := some (.map [.int 9223372036854775807 0, .int 9223372036854775807 1] [.int 9223372036854775807 0, .int 9223372036854775807 1])
noncomputable def bob20_3 : Option Blk := some (.cells [.slo 11 0 2 2 1 true] 0)
noncomputable def bob20_4 : Option Blk := some (.cells [.slo 11 0 2 2 1 true, .slo 18 0 2 2 1 true] 86)
noncomputable def bob20_5 : Option Blk := some (.cells [.slo 26 0 2 2 1 false, .slo 27 0 2 2 1 false] 0)
noncomputable def bob20_6 : Option Blk := some (.cells (fapp (frep 122 (.int 255 0)) (fapp [.int 255 1] (fapp (frep 133 (.int 255 0)) [.slo 23 0 2 2 1 true, .slo 22 0 2 2 1 false]))) 149)
noncomputable def bob20_7 : Option Blk := some (.map [.str [0, 0, 0, 0], .str [0, 2, 0, 0]] [.int 255 0, .int 255 1])
noncomputable def bob20_8 : Option Blk := some (.cells [.int 9223372036854775807 (-1), .int 9223372036854775807 1] 4)
noncomputable def bob20_9 : Option Blk := some (.cells [.int 9223372036854775807 (-1), .int 9223372036854775807 (-1)] 4)
noncomputable def bob20_10 : Option Blk := some (.cells [.int 9223372036854775807 0, .int 9223372036854775807 0] 4)
noncomputable def boG20 : BT (List Ent) := (.nd 188 (.nd 159 (.lf 158 [bop18, bop9]) (.lf 159 [bop12])) (.nd 201 (.lf 188 [bop19, bop10]) (.lf 201 [bop17, bop8])))
theorem boG20_ok (X : CxOk Tryz.prog (CT mx)) : EntsOk Tryz.prog (CT mx) boG20 := ⟨⟨(List.forall_mem_cons.2 ⟨bom18 X, (List.forall_mem_cons.2 ⟨bom9 X, (fun _ h => nomatch h)⟩)⟩), (List.forall_mem_cons.2 ⟨bom12 X, (fun _ h => nomatch h)⟩)⟩, ⟨(List.forall_mem_cons.2 ⟨bom19 X, (List.forall_mem_cons.2 ⟨bom10 X, (fun _ h => nomatch h)⟩)⟩), (List.forall_mem_cons.2 ⟨bom17 X, (List.forall_mem_cons.2 ⟨bom8 X, (fun _ h => nomatch h)⟩)⟩)⟩⟩
noncomputable def bop20 : Ent := ([.pto 8 0], [bob19_1, bob17_1, bob19_2, bob18_4, bob18_9, bob19_3, bob18_13, bob19_5, bob20_1, bob20_2, bob9_6, bob18_4, bob9_10, bob19_5, bob20_3, none, bob18_8, none, bob18_9, bob18_7, bob20_4, bob18_12, bob18_13], .pto 24 0, [bob19_1, bob17_1, bob19_2, bob18_4, bob18_9, bob19_3, bob18_13, bob19_5, bob20_1, bob20_2, bob9_6, bob18_4, bob9_10, bob19_5, bob20_3, none, bob18_8, none, bob18_9, bob18_7, bob20_4, bob18_12, bob18_13, bob20_5, bob20_6, bob20_7, bob20_8, bob20_9, bob20_10])
set_option maxRecDepth 1000000 in
theorem bom20 (X : CxOk Tryz.prog (CT mx)) : RunAt Tryz.prog (CT mx) 190 bop20.1 bop20.2.1 bop20.2.2.1 bop20.2.2.2 := RunAt.of_gl (by rfl) (runG_ok ((X.told (boT16_ok X)).heard ((boG20_ok X).of_gl rfl)) 4000 190 bop20.1 bop20.2.1 bop20.2.2.1 bop20.2.2.2 (by kernel_rfl))
noncomputable def bob21_1 : Option Blk := some (.cells [.slo 25 0 2 2 1 false, .slo 26 0 2 2 1 false] 0)
noncomputable def boH20 : BT (List Ent) := (.nd 188 (.nd 159 (.lf 158 [bop18, bop9]) (.lf 159 [bop12])) (.nd 190 (.lf 188 [bop19, bop10]) (.nd 201 (.lf 190 [bop20, bop11]) (.lf 201 [bop17, bop8]))))
theorem boH20_ok (X : CxOk Tryz.prog (CT mx)) : EntsOk Tryz.prog (CT mx) boH20 := ⟨⟨(List.forall_mem_cons.2 ⟨bom18 X, (List.forall_mem_cons.2 ⟨bom9 X, (fun _ h => nomatch h)⟩)⟩), (List.forall_mem_cons.2 ⟨bom12 X, (fun _ h => nomatch h)⟩)⟩, ⟨(List.forall_mem_cons.2 ⟨bom19 X, (List.forall_mem_cons.2 ⟨bom10 X, (fun _ h => nomatch h)⟩)⟩), ⟨(List.forall_mem_cons.2 ⟨bom20 X, (List.forall_mem_cons.2 ⟨bom11 X, (fun _ h => nomatch h)⟩)⟩), (List.forall_mem_cons.2 ⟨bom17 X, (List.forall_mem_cons.2 ⟨bom8 X, (fun _ h => nomatch h)⟩)⟩)⟩⟩⟩
noncomputable def boG21 : BT (List Ent) := (.nd 190 (.nd 188 (.lf 158 [bop18, bop9]) (.lf 188 [bop19, bop10])) (.nd 201 (.lf 190 [bop20, bop11]) (.lf 201 [bop17, bop8])))
theorem boG21_ok (X : CxOk Tryz.prog (CT mx)) : EntsOk Tryz.prog (CT mx) boG21 := ⟨⟨(List.forall_mem_cons.2 ⟨bom18 X, (List.forall_mem_cons.2 ⟨bom9 X, (fun _ h => nomatch h)⟩)⟩), (List.forall_mem_cons.2 ⟨bom19 X, (List.forall_mem_cons.2 ⟨bom10 X, (fun _ h => nomatch h)⟩)⟩)⟩, ⟨(List.forall_mem_cons.2 ⟨bom20 X, (List.forall_mem_cons.2 ⟨bom11 X, (fun _ h => nomatch h)⟩)⟩), (List.forall_mem_cons.2 ⟨bom17 X, (List.forall_mem_cons.2 ⟨bom8 X, (fun _ h => nomatch h)⟩)⟩)⟩⟩
noncomputable def bop21 : Ent := ([.pto 2 0], [bob19_1, bob17_1, bob19_2, bob18_4, bob18_9, bob19_3, bob18_13], .pto 24 0, [bob19_1, bob17_1, bob19_2, bob18_4, bob18_9, bob19_3, bob18_13, bob19_5, bob20_1, bob20_2, bob9_6, bob18_4, bob9_10, bob19_5, bob20_3, none, bob18_8, none, bob18_9, bob18_7, bob20_4, bob18_12, bob18_13, bob21_1, bob20_6, bob20_8, bob20_9])
set_option maxRecDepth 1000000 in
theorem bom21 (X : CxOk Tryz.prog (CT mx)) : RunAt Tryz.prog (CT mx) 159 bop21.1 bop21.2.1 bop21.2.2.1 bop21.2.2.2 := RunAt.of_gl (by rfl) (runG_ok ((X.told (boT16_ok X)).heard ((boG21_ok X).of_gl rfl)) 4000 159 bop21.1 bop21.2.1 bop21.2.2.1 bop21.2.2.2 (by kernel_rfl))
end Go.Proofs.YtlkccnhkenmkdaaGreatDoor
