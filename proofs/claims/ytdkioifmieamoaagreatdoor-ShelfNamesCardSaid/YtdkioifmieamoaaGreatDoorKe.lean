/- Calls of this program that bear no variable, reckoned by the evaluator, and told ahead: printed by a program. -/
import Derived.Test.YtdkioifmieamoaaGreatDoorME
import Derived.Test.YtdkioifmieamoaaGreatDoorMF
namespace Go.Proofs.YtdkioifmieamoaaGreatDoor
variable {mx : Int}
noncomputable def keT0 : BT (List (List AV × AV)) := .nl
theorem keT0_ok (X : CxOk Tryz.prog (C0 mx)) : MemosOk Tryz.prog (C0 mx) keT0 := trivial
noncomputable def kep1 : List AV × AV := ([.str [46, 46, 32, 61, 32, 59, 32, 123, 32, 125, 32, 91, 32, 93, 32, 40, 32, 41, 32, 58, 32, 124, 32, 42, 32, 43, 32, 37]], .slp [.str [46, 46], .str [61], .str [59], .str [123], .str [125], .str [91], .str [93], .str [40], .str [41], .str [58], .str [124], .str [42], .str [43], .str [37]] 14)
set_option maxRecDepth 1000000 in
theorem kem1 (X : CxOk Tryz.prog (C0 mx)) : MemoOk Tryz.prog (C0 mx) 211 kep1.1 kep1.2 := MemoOk.of_gl (by rfl) (memo_of_runG (X.told (keT0_ok X)) (n := 4000) (f := 211) (args := kep1.1) (v := kep1.2) (by kernel_rfl) (by kernel_rfl))
noncomputable def kep2 : List AV × AV := ([.str [109, 97, 105, 110]], .tup [.int 9223372036854775807 0, .bool false, .bool false])
set_option maxRecDepth 1000000 in
theorem kem2 (X : CxOk Tryz.prog (C0 mx)) : MemoOk Tryz.prog (C0 mx) 218 kep2.1 kep2.2 := MemoOk.of_gl (by rfl) (memo_of_runG (X.told (keT0_ok X)) (n := 4000) (f := 218) (args := kep2.1) (v := kep2.2) (by kernel_rfl) (by kernel_rfl))
noncomputable def kev3_1 : AV := .agg [.slp [.int 9223372036854775807 1, .int 9223372036854775807 1, .bool false, .bool false, .bool false, .int 18446744073709551615 0, .int 18446744073709551615 255, .str [], .str [], .int 18446744073709551615 0, .int 18446744073709551615 0, .nils, .nils, .nils, .str [], .int 18446744073709551615 0, .nils, .int 9223372036854775807 0] 1, .slp [.str [109, 97, 105, 110], .int 9223372036854775807 0] 1]
noncomputable def kep3 : List AV × AV := ([kev3_1], .int 9223372036854775807 0)
set_option maxRecDepth 1000000 in
theorem kem3 (X : CxOk Tryz.prog (C0 mx)) : MemoOk Tryz.prog (C0 mx) 50 kep3.1 kep3.2 := MemoOk.of_gl (by rfl) (memo_of_runG (X.told (keT0_ok X)) (n := 4000) (f := 50) (args := kep3.1) (v := kep3.2) (by kernel_rfl) (by kernel_rfl))
noncomputable def keT3 : BT (List (List AV × AV)) := (.nd 211 (.lf 50 [kep3]) (.nd 218 (.lf 211 [kep1]) (.lf 218 [kep2])))
theorem keT3_ok (X : CxOk Tryz.prog (C0 mx)) : MemosOk Tryz.prog (C0 mx) keT3 := ⟨(List.forall_mem_cons.2 ⟨kem3 X, (fun _ h => nomatch h)⟩), ⟨(List.forall_mem_cons.2 ⟨kem1 X, (fun _ h => nomatch h)⟩), (List.forall_mem_cons.2 ⟨kem2 X, (fun _ h => nomatch h)⟩)⟩⟩
noncomputable def kep4 : List AV × AV := ([kev3_1], .agg [.int 9223372036854775807 0, .int 9223372036854775807 0])
set_option maxRecDepth 1000000 in
theorem kem4 (X : CxOk Tryz.prog (C0 mx)) : MemoOk Tryz.prog (C0 mx) 223 kep4.1 kep4.2 := MemoOk.of_gl (by rfl) (memo_of_runG (X.told (keT3_ok X)) (n := 4000) (f := 223) (args := kep4.1) (v := kep4.2) (by kernel_rfl) (by kernel_rfl))
noncomputable def kep5 : List AV × AV := ([.int 255 0, .int 255 255], .agg [.int 18446744073709551615 18446744073709551615, .int 18446744073709551615 18446744073709551615, .int 18446744073709551615 18446744073709551615, .int 18446744073709551615 18446744073709551615])
set_option maxRecDepth 1000000 in
theorem kem5 (X : CxOk Tryz.prog (C0 mx)) : MemoOk Tryz.prog (C0 mx) 318 kep5.1 kep5.2 := MemoOk.of_gl (by rfl) (memo_of_runG (X.told (keT3_ok X)) (n := 4000) (f := 318) (args := kep5.1) (v := kep5.2) (by kernel_rfl) (by kernel_rfl))
noncomputable def keT5 : BT (List (List AV × AV)) := (.nd 218 (.nd 211 (.lf 50 [kep3]) (.lf 211 [kep1])) (.nd 223 (.lf 218 [kep2]) (.nd 318 (.lf 223 [kep4]) (.lf 318 [kep5]))))
theorem keT5_ok (X : CxOk Tryz.prog (C0 mx)) : MemosOk Tryz.prog (C0 mx) keT5 := ⟨⟨(List.forall_mem_cons.2 ⟨kem3 X, (fun _ h => nomatch h)⟩), (List.forall_mem_cons.2 ⟨kem1 X, (fun _ h => nomatch h)⟩)⟩, ⟨(List.forall_mem_cons.2 ⟨kem2 X, (fun _ h => nomatch h)⟩), ⟨(List.forall_mem_cons.2 ⟨kem4 X, (fun _ h => nomatch h)⟩), (List.forall_mem_cons.2 ⟨kem5 X, (fun _ h => nomatch h)⟩)⟩⟩⟩
set_option maxRecDepth 1000000 in
theorem ke_head (X : CxOk Tryz.prog (C0 mx)) : MemoOk Tryz.prog (C0 mx) 4 [] (.bool true) := MemoOk.of_gl (by rfl) (memo_of_runG (X.told (keT5_ok X)) (n := 4000) (f := 4) (args := []) (v := .bool true) (by kernel_rfl) (by kernel_rfl))
end Go.Proofs.YtdkioifmieamoaaGreatDoor
