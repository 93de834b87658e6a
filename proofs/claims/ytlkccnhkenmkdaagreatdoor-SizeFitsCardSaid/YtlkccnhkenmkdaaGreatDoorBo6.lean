/- Calls of this program that bear no variable, reckoned by the evaluator, and told ahead: printed by a program. -/
import Derived.Test.YtlkccnhkenmkdaaGreatDoorBo5
namespace Go.Proofs.YtlkccnhkenmkdaaGreatDoor
set_option linter.unusedVariables false
variable {mx : Int}
noncomputable def bop14 : List AV × AV := ([bov13_1], .agg [.int 18446744073709551615 0, .int 18446744073709551615 8589934592, .int 18446744073709551615 0, .int 18446744073709551615 0])
set_option maxRecDepth 1000000 in
theorem bom14 (X : CxOk Tryz.prog (CT mx)) : MemoOk Tryz.prog (CT mx) 137 bop14.1 bop14.2 := MemoOk.of_gl (by rfl) (memo_of_runG ((X.told (boT7_ok X)).heard ((boH11_ok X).of_gl rfl)) (n := 4000) (f := 137) (args := bop14.1) (v := bop14.2) (by kernel_rfl) (by kernel_rfl))
noncomputable def bop15 : List AV × AV := ([.agg [.int 18446744073709551615 0, .int 18446744073709551615 288230376151711744, .int 18446744073709551615 0, .int 18446744073709551615 0]], .tup [.int 255 122, .bool true])
set_option maxRecDepth 1000000 in
theorem bom15 (X : CxOk Tryz.prog (CT mx)) : MemoOk Tryz.prog (CT mx) 185 bop15.1 bop15.2 := MemoOk.of_gl (by rfl) (memo_of_runG ((X.told (boT7_ok X)).heard ((boH11_ok X).of_gl rfl)) (n := 4000) (f := 185) (args := bop15.1) (v := bop15.2) (by kernel_rfl) (by kernel_rfl))
noncomputable def bop16 : List AV × AV := ([.agg [.int 18446744073709551615 18446744073709551615, .int 18446744073709551615 18158513697557839871, .int 18446744073709551615 18446744073709551615, .int 18446744073709551615 18446744073709551615]], .tup [.int 255 0, .bool true])
set_option maxRecDepth 1000000 in
theorem bom16 (X : CxOk Tryz.prog (CT mx)) : MemoOk Tryz.prog (CT mx) 185 bop16.1 bop16.2 := MemoOk.of_gl (by rfl) (memo_of_runG ((X.told (boT7_ok X)).heard ((boH11_ok X).of_gl rfl)) (n := 4000) (f := 185) (args := bop16.1) (v := bop16.2) (by kernel_rfl) (by kernel_rfl))
noncomputable def bob17_1 : Option Blk := some (.cells [.slp [.slp [.int 9223372036854775807 1, .int 18446744073709551615 0, .int 18446744073709551615 288230376151711744, .int 18446744073709551615 0, .int 18446744073709551615 0, .bool false] 1, .nils] 2, .int 9223372036854775807 1] 230)
noncomputable def bob17_2 : Option Blk := some (.map [.agg [.int 18446744073709551615 0, .int 18446744073709551615 288230376151711744, .int 18446744073709551615 0, .int 18446744073709551615 0]] [.bool true])
noncomputable def bob17_3 : Option Blk := some (.cells [.int 9223372036854775807 1, .int 18446744073709551615 0, .int 18446744073709551615 288230376151711744, .int 18446744073709551615 0, .int 18446744073709551615 0, .bool false] 273)
noncomputable def bob17_4 : Option Blk := some (.cells [.int 18446744073709551615 0, .int 18446744073709551615 288230376151711744, .int 18446744073709551615 0, .int 18446744073709551615 0] 0)
noncomputable def bob17_5 : Option Blk := some (.cells [.int 18446744073709551615 0, .int 18446744073709551615 288230376151711744, .int 18446744073709551615 0, .int 18446744073709551615 0] 110)
noncomputable def bob17_6 : Option Blk := some (.cells [.int 18446744073709551615 18446744073709551615, .int 18446744073709551615 18158513697557839871, .int 18446744073709551615 18446744073709551615, .int 18446744073709551615 18446744073709551615] 110)
noncomputable def bob17_7 : Option Blk := some (.cells [.int 18446744073709551615 18446744073709551615, .int 18446744073709551615 18158513697557839871, .int 18446744073709551615 18446744073709551615, .int 18446744073709551615 18446744073709551615] 0)
noncomputable def bob17_8 : Option Blk := some (.cells [.int 18446744073709551615 0, .int 18446744073709551615 288230376151711744, .int 18446744073709551615 0, .int 18446744073709551615 0, .int 18446744073709551615 18446744073709551615, .int 18446744073709551615 18158513697557839871, .int 18446744073709551615 18446744073709551615, .int 18446744073709551615 18446744073709551615] 110)
noncomputable def bob17_9 : Option Blk := some (.cells [.int 18446744073709551615 18446744073709551615, .int 18446744073709551615 18158513697557839871, .int 18446744073709551615 18446744073709551615, .int 18446744073709551615 18446744073709551615, .int 18446744073709551615 0, .int 18446744073709551615 288230376151711744, .int 18446744073709551615 0, .int 18446744073709551615 0] 110)
noncomputable def boT16 : BT (List (List AV × AV)) := (.nd 84 (.nd 9 (.lf 6 [bop3]) (.nd 36 (.lf 9 [bop2]) (.lf 36 [bop1]))) (.nd 137 (.nd 135 (.lf 84 [bop4]) (.lf 135 [bop13])) (.nd 185 (.lf 137 [bop14]) (.lf 185 [bop16, bop15, bop7, bop6, bop5]))))
theorem boT16_ok (X : CxOk Tryz.prog (CT mx)) : MemosOk Tryz.prog (CT mx) boT16 := ⟨⟨(List.forall_mem_cons.2 ⟨bom3 X, (fun _ h => nomatch h)⟩), ⟨(List.forall_mem_cons.2 ⟨bom2 X, (fun _ h => nomatch h)⟩), (List.forall_mem_cons.2 ⟨bom1 X, (fun _ h => nomatch h)⟩)⟩⟩, ⟨⟨(List.forall_mem_cons.2 ⟨bom4 X, (fun _ h => nomatch h)⟩), (List.forall_mem_cons.2 ⟨bom13 X, (fun _ h => nomatch h)⟩)⟩, ⟨(List.forall_mem_cons.2 ⟨bom14 X, (fun _ h => nomatch h)⟩), (List.forall_mem_cons.2 ⟨bom16 X, (List.forall_mem_cons.2 ⟨bom15 X, (List.forall_mem_cons.2 ⟨bom7 X, (List.forall_mem_cons.2 ⟨bom6 X, (List.forall_mem_cons.2 ⟨bom5 X, (fun _ h => nomatch h)⟩)⟩)⟩)⟩)⟩)⟩⟩⟩
noncomputable def boH12 : BT (List Ent) := (.nd 188 (.nd 159 (.lf 158 [bop9]) (.lf 159 [bop12])) (.nd 190 (.lf 188 [bop10]) (.nd 201 (.lf 190 [bop11]) (.lf 201 [bop8]))))
theorem boH12_ok (X : CxOk Tryz.prog (CT mx)) : EntsOk Tryz.prog (CT mx) boH12 := ⟨⟨(List.forall_mem_cons.2 ⟨bom9 X, (fun _ h => nomatch h)⟩), (List.forall_mem_cons.2 ⟨bom12 X, (fun _ h => nomatch h)⟩)⟩, ⟨(List.forall_mem_cons.2 ⟨bom10 X, (fun _ h => nomatch h)⟩), ⟨(List.forall_mem_cons.2 ⟨bom11 X, (fun _ h => nomatch h)⟩), (List.forall_mem_cons.2 ⟨bom8 X, (fun _ h => nomatch h)⟩)⟩⟩⟩
noncomputable def boG17 : BT (List Ent) := (.nd 188 (.nd 159 (.lf 158 [bop9]) (.lf 159 [bop12])) (.nd 190 (.lf 188 [bop10]) (.lf 190 [bop11])))
theorem boG17_ok (X : CxOk Tryz.prog (CT mx)) : EntsOk Tryz.prog (CT mx) boG17 := ⟨⟨(List.forall_mem_cons.2 ⟨bom9 X, (fun _ h => nomatch h)⟩), (List.forall_mem_cons.2 ⟨bom12 X, (fun _ h => nomatch h)⟩)⟩, ⟨(List.forall_mem_cons.2 ⟨bom10 X, (fun _ h => nomatch h)⟩), (List.forall_mem_cons.2 ⟨bom11 X, (fun _ h => nomatch h)⟩)⟩⟩
noncomputable def bop17 : Ent := ([.slo 16 0 2 2 4 false], [bob17_1, bob8_3, bob8_4, bob17_1, bob17_2, bob17_3, bob17_4, bob17_5, bob8_19, bob17_5, bob8_21, bob17_5, bob17_4, none, bob17_6, bob17_7, bob17_8], .slo 17 0 2 2 4 false, [bob17_1, bob8_3, bob8_4, bob17_1, bob17_2, bob17_3, bob17_4, bob17_5, bob8_19, bob17_5, bob8_21, bob17_5, bob17_4, none, bob17_6, bob17_7, bob17_8, bob17_9, bob17_6, bob17_5, bob17_6, bob17_5, bob17_6, bob17_5, bob17_6, bob17_5, bob17_6])
set_option maxRecDepth 1000000 in
theorem bom17 (X : CxOk Tryz.prog (CT mx)) : RunAt Tryz.prog (CT mx) 201 bop17.1 bop17.2.1 bop17.2.2.1 bop17.2.2.2 := RunAt.of_gl (by rfl) (runG_ok ((X.told (boT16_ok X)).heard ((boG17_ok X).of_gl rfl)) 4000 201 bop17.1 bop17.2.1 bop17.2.2.1 bop17.2.2.2 (by kernel_rfl))
noncomputable def bob18_1 : Option Blk := some (.cells (fapp (frep 122 (.int 255 0)) (fapp [.int 255 1] (fapp (frep 133 (.int 255 0)) [.slo 33 0 2 2 1 false, .slo 36 0 2 2 1 false]))) 149)
noncomputable def bob18_2 : Option Blk := some (.cells [.slo 15 0 1 1 1 false] 0)
noncomputable def bob18_3 : Option Blk := some (.map [.str [0, 0], .str [0, 1]] [.int 9223372036854775807 0, .int 9223372036854775807 1])
noncomputable def bob18_4 : Option Blk := some (.cells [.int 9223372036854775807 (-1), .int 9223372036854775807 1] 0)
noncomputable def bob18_5 : Option Blk := some (.cells [.slo 21 0 1 1 1 false] 0)
noncomputable def bob18_6 : Option Blk := some (.cells [.slo 15 0 1 1 1 false, .slo 21 0 1 1 1 false] 0)
noncomputable def bob18_7 : Option Blk := some (.cells [.slo 18 0 2 2 1 true] 0)
noncomputable def bob18_8 : Option Blk := some (.cells [.bool false] 0)
noncomputable def bob18_9 : Option Blk := some (.cells [.int 9223372036854775807 (-1), .int 9223372036854775807 (-1)] 0)
noncomputable def bob18_10 : Option Blk := some (.cells [.slo 29 0 2 2 1 true] 0)
noncomputable def bob18_11 : Option Blk := some (.cells [.slo 18 0 2 2 1 true, .slo 29 0 2 2 1 true] 86)
noncomputable def bob18_12 : Option Blk := some (.cells [.bool true] 0)
noncomputable def bob18_13 : Option Blk := some (.cells [.bool false, .bool true] 5)
noncomputable def boH17 : BT (List Ent) := (.nd 188 (.nd 159 (.lf 158 [bop9]) (.lf 159 [bop12])) (.nd 190 (.lf 188 [bop10]) (.nd 201 (.lf 190 [bop11]) (.lf 201 [bop17, bop8]))))
theorem boH17_ok (X : CxOk Tryz.prog (CT mx)) : EntsOk Tryz.prog (CT mx) boH17 := ⟨⟨(List.forall_mem_cons.2 ⟨bom9 X, (fun _ h => nomatch h)⟩), (List.forall_mem_cons.2 ⟨bom12 X, (fun _ h => nomatch h)⟩)⟩, ⟨(List.forall_mem_cons.2 ⟨bom10 X, (fun _ h => nomatch h)⟩), ⟨(List.forall_mem_cons.2 ⟨bom11 X, (fun _ h => nomatch h)⟩), (List.forall_mem_cons.2 ⟨bom17 X, (List.forall_mem_cons.2 ⟨bom8 X, (fun _ h => nomatch h)⟩)⟩)⟩⟩⟩
noncomputable def boG18 : BT (List Ent) := (.nd 190 (.nd 188 (.lf 159 [bop12]) (.lf 188 [bop10])) (.nd 201 (.lf 190 [bop11]) (.lf 201 [bop17, bop8])))
theorem boG18_ok (X : CxOk Tryz.prog (CT mx)) : EntsOk Tryz.prog (CT mx) boG18 := ⟨⟨(List.forall_mem_cons.2 ⟨bom12 X, (fun _ h => nomatch h)⟩), (List.forall_mem_cons.2 ⟨bom10 X, (fun _ h => nomatch h)⟩)⟩, ⟨(List.forall_mem_cons.2 ⟨bom11 X, (fun _ h => nomatch h)⟩), (List.forall_mem_cons.2 ⟨bom17 X, (List.forall_mem_cons.2 ⟨bom8 X, (fun _ h => nomatch h)⟩)⟩)⟩⟩
noncomputable def bop18 : Ent := ([.agg [.slp [.slp [.int 9223372036854775807 1, .int 18446744073709551615 0, .int 18446744073709551615 288230376151711744, .int 18446744073709551615 0, .int 18446744073709551615 0, .bool false] 1, .nils] 2, .int 9223372036854775807 1]], [], .tup [.pto 1 0, .int 9223372036854775807 0], [bob17_1, bob18_1, bob8_4, bob17_1, bob17_2, bob17_3, bob17_4, bob17_5, bob17_9, bob9_3, bob17_6, bob9_4, bob17_5, bob17_1, bob9_6, bob9_6, bob18_2, bob18_3, bob18_4, bob17_6, bob17_5, bob9_10, bob18_5, bob18_6, bob18_7, none, bob17_1, bob18_8, none, bob18_9, bob17_6, bob17_5, bob18_10, bob18_11, bob17_1, bob18_12, bob18_13])
set_option maxRecDepth 1000000 in
theorem bom18 (X : CxOk Tryz.prog (CT mx)) : RunAt Tryz.prog (CT mx) 158 bop18.1 bop18.2.1 bop18.2.2.1 bop18.2.2.2 := RunAt.of_gl (by rfl) (runG_ok ((X.told (boT16_ok X)).heard ((boG18_ok X).of_gl rfl)) 4000 158 bop18.1 bop18.2.1 bop18.2.2.1 bop18.2.2.2 (by kernel_rfl))
noncomputable def bob19_1 : Option Blk := some (.cells [.int 9223372036854775807 2, .int 18446744073709551615 0, .int 18446744073709551615 288230376151711744, .int 18446744073709551615 0, .int 18446744073709551615 0, .nils, .int 9223372036854775807 0, .int 9223372036854775807 0] 205)
noncomputable def bob19_2 : Option Blk := some (.cells (fapp (frep 122 (.int 255 0)) (fapp [.int 255 1] (fapp (frep 133 (.int 255 0)) [.slo 5 0 2 2 1 false, .slo 6 0 2 2 1 false]))) 149)
noncomputable def bob19_3 : Option Blk := some (.cells [.slo 3 0 2 2 1 true, .slo 4 0 2 2 1 true] 86)
noncomputable def bob19_4 : Option Blk := some (.cells [.bool true, .bool true] 0)
noncomputable def bob19_5 : Option Blk := some (.cells [.int 9223372036854775807 0, .int 9223372036854775807 1] 0)
noncomputable def bob19_6 : Option Blk := some (.map [.str [0, 1, 0, 0, 0, 2], .str [0, 2, 0, 0, 0, 0]] [.int 9223372036854775807 0, .int 9223372036854775807 1])
noncomputable def bob19_7 : Option Blk := some (.cells [.int 9223372036854775807 2] 0)
noncomputable def bob19_8 : Option Blk := some (.cells [.int 9223372036854775807 1, .int 9223372036854775807 0, .int 9223372036854775807 2] 0)
noncomputable def bob19_9 : Option Blk := some (.cells [.int 9223372036854775807 2, .int 9223372036854775807 0, .int 9223372036854775807 0] 0)
noncomputable def boG19 : BT (List Ent) := (.nd 190 (.nd 159 (.lf 158 [bop18, bop9]) (.lf 159 [bop12])) (.nd 201 (.lf 190 [bop11]) (.lf 201 [bop17, bop8])))
theorem boG19_ok (X : CxOk Tryz.prog (CT mx)) : EntsOk Tryz.prog (CT mx) boG19 := ⟨⟨(List.forall_mem_cons.2 ⟨bom18 X, (List.forall_mem_cons.2 ⟨bom9 X, (fun _ h => nomatch h)⟩)⟩), (List.forall_mem_cons.2 ⟨bom12 X, (fun _ h => nomatch h)⟩)⟩, ⟨(List.forall_mem_cons.2 ⟨bom11 X, (fun _ h => nomatch h)⟩), (List.forall_mem_cons.2 ⟨bom17 X, (List.forall_mem_cons.2 ⟨bom8 X, (fun _ h => nomatch h)⟩)⟩)⟩⟩
noncomputable def bop19 : Ent := ([.pto 2 0], [bob19_1, bob17_1, bob19_2, bob18_4, bob18_9, bob19_3, bob18_13], .slo 23 0 2 2 1 true, [bob19_1, bob17_1, bob19_2, bob18_4, bob18_9, bob19_3, bob18_13, bob10_5, bob19_4, bob19_5, bob19_6, bob19_5, bob9_10, bob9_6, none, bob19_7, bob19_8, bob19_7, bob9_6, none, bob9_6, bob19_9, bob19_6, bob19_5, bob9_10, bob9_6, none, bob19_7, bob19_8, bob19_7, bob9_6, none, bob9_6, bob19_9])
set_option maxRecDepth 1000000 in
theorem bom19 (X : CxOk Tryz.prog (CT mx)) : RunAt Tryz.prog (CT mx) 188 bop19.1 bop19.2.1 bop19.2.2.1 bop19.2.2.2 := RunAt.of_gl (by rfl) (runG_ok ((X.told (boT16_ok X)).heard ((boG19_ok X).of_gl rfl)) 4000 188 bop19.1 bop19.2.1 bop19.2.2.1 bop19.2.2.2 (by kernel_rfl))
end Go.Proofs.YtlkccnhkenmkdaaGreatDoor
