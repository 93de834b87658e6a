/- Calls of this program that bear no variable, reckoned by the evaluator, and told ahead: printed by a program. -/
import Derived.Test.YtgjoogfoeomcdaaGreatDoorAs1
namespace Go.Proofs.YtgjoogfoeomcdaaGreatDoor
set_option linter.unusedVariables false
variable {mx : Int}
noncomputable def asp3 : List AV × AV := ([.str [110, 97, 109, 101]], .tup [.int 9223372036854775807 0, .bool false, .bool false])
set_option maxRecDepth 1000000 in
theorem asm3 (X : CxOk Tryz.prog (C1 mx)) : MemoOk Tryz.prog (C1 mx) 99 asp3.1 asp3.2 := MemoOk.of_gl (by rfl) (memo_of_run ((X.told (asT1_ok X)).heard ((asH0_ok X).of_gl rfl)) (n := 4000) (f := 99) (args := asp3.1) (v := asp3.2) (by kernel_rfl) (by kernel_rfl))
noncomputable def asp4 : List AV × AV := ([.str [110]], .tup [.int 9223372036854775807 0, .bool false, .bool false])
set_option maxRecDepth 1000000 in
theorem asm4 (X : CxOk Tryz.prog (C1 mx)) : MemoOk Tryz.prog (C1 mx) 99 asp4.1 asp4.2 := MemoOk.of_gl (by rfl) (memo_of_run ((X.told (asT1_ok X)).heard ((asH0_ok X).of_gl rfl)) (n := 4000) (f := 99) (args := asp4.1) (v := asp4.2) (by kernel_rfl) (by kernel_rfl))
noncomputable def asp5 : List AV × AV := ([.str [116]], .tup [.int 9223372036854775807 0, .bool false, .bool false])
set_option maxRecDepth 1000000 in
theorem asm5 (X : CxOk Tryz.prog (C1 mx)) : MemoOk Tryz.prog (C1 mx) 99 asp5.1 asp5.2 := MemoOk.of_gl (by rfl) (memo_of_run ((X.told (asT1_ok X)).heard ((asH0_ok X).of_gl rfl)) (n := 4000) (f := 99) (args := asp5.1) (v := asp5.2) (by kernel_rfl) (by kernel_rfl))
noncomputable def asp6 : List AV × AV := ([.str [98, 121, 116, 101, 115]], .tup [.int 9223372036854775807 0, .bool false, .bool false])
set_option maxRecDepth 1000000 in
theorem asm6 (X : CxOk Tryz.prog (C1 mx)) : MemoOk Tryz.prog (C1 mx) 99 asp6.1 asp6.2 := MemoOk.of_gl (by rfl) (memo_of_run ((X.told (asT1_ok X)).heard ((asH0_ok X).of_gl rfl)) (n := 4000) (f := 99) (args := asp6.1) (v := asp6.2) (by kernel_rfl) (by kernel_rfl))
noncomputable def asp7 : List AV × AV := ([.str [113, 117, 101, 115, 116, 105, 111, 110]], .tup [.int 9223372036854775807 0, .bool false, .bool false])
set_option maxRecDepth 1000000 in
theorem asm7 (X : CxOk Tryz.prog (C1 mx)) : MemoOk Tryz.prog (C1 mx) 99 asp7.1 asp7.2 := MemoOk.of_gl (by rfl) (memo_of_run ((X.told (asT1_ok X)).heard ((asH0_ok X).of_gl rfl)) (n := 4000) (f := 99) (args := asp7.1) (v := asp7.2) (by kernel_rfl) (by kernel_rfl))
noncomputable def asp8 : List AV × AV := ([.str [113, 110, 97, 109, 101]], .tup [.int 9223372036854775807 0, .bool false, .bool false])
set_option maxRecDepth 1000000 in
theorem asm8 (X : CxOk Tryz.prog (C1 mx)) : MemoOk Tryz.prog (C1 mx) 99 asp8.1 asp8.2 := MemoOk.of_gl (by rfl) (memo_of_run ((X.told (asT1_ok X)).heard ((asH0_ok X).of_gl rfl)) (n := 4000) (f := 99) (args := asp8.1) (v := asp8.2) (by kernel_rfl) (by kernel_rfl))
noncomputable def asp9 : List AV × AV := ([.str [113, 116, 121, 112, 101]], .tup [.int 9223372036854775807 0, .bool false, .bool false])
set_option maxRecDepth 1000000 in
theorem asm9 (X : CxOk Tryz.prog (C1 mx)) : MemoOk Tryz.prog (C1 mx) 99 asp9.1 asp9.2 := MemoOk.of_gl (by rfl) (memo_of_run ((X.told (asT1_ok X)).heard ((asH0_ok X).of_gl rfl)) (n := 4000) (f := 99) (args := asp9.1) (v := asp9.2) (by kernel_rfl) (by kernel_rfl))
noncomputable def asp10 : List AV × AV := ([.str [113, 99, 108, 97, 115, 115]], .tup [.int 9223372036854775807 0, .bool false, .bool false])
set_option maxRecDepth 1000000 in
theorem asm10 (X : CxOk Tryz.prog (C1 mx)) : MemoOk Tryz.prog (C1 mx) 99 asp10.1 asp10.2 := MemoOk.of_gl (by rfl) (memo_of_run ((X.told (asT1_ok X)).heard ((asH0_ok X).of_gl rfl)) (n := 4000) (f := 99) (args := asp10.1) (v := asp10.2) (by kernel_rfl) (by kernel_rfl))
noncomputable def asp11 : List AV × AV := ([.str [114, 101, 99, 111, 114, 100]], .tup [.int 9223372036854775807 0, .bool false, .bool false])
set_option maxRecDepth 1000000 in
theorem asm11 (X : CxOk Tryz.prog (C1 mx)) : MemoOk Tryz.prog (C1 mx) 99 asp11.1 asp11.2 := MemoOk.of_gl (by rfl) (memo_of_run ((X.told (asT1_ok X)).heard ((asH0_ok X).of_gl rfl)) (n := 4000) (f := 99) (args := asp11.1) (v := asp11.2) (by kernel_rfl) (by kernel_rfl))
noncomputable def asp12 : List AV × AV := ([.str [114, 110, 97, 109, 101]], .tup [.int 9223372036854775807 0, .bool false, .bool false])
set_option maxRecDepth 1000000 in
theorem asm12 (X : CxOk Tryz.prog (C1 mx)) : MemoOk Tryz.prog (C1 mx) 99 asp12.1 asp12.2 := MemoOk.of_gl (by rfl) (memo_of_run ((X.told (asT1_ok X)).heard ((asH0_ok X).of_gl rfl)) (n := 4000) (f := 99) (args := asp12.1) (v := asp12.2) (by kernel_rfl) (by kernel_rfl))
noncomputable def asp13 : List AV × AV := ([.str [114, 116, 121, 112, 101]], .tup [.int 9223372036854775807 0, .bool false, .bool false])
set_option maxRecDepth 1000000 in
theorem asm13 (X : CxOk Tryz.prog (C1 mx)) : MemoOk Tryz.prog (C1 mx) 99 asp13.1 asp13.2 := MemoOk.of_gl (by rfl) (memo_of_run ((X.told (asT1_ok X)).heard ((asH0_ok X).of_gl rfl)) (n := 4000) (f := 99) (args := asp13.1) (v := asp13.2) (by kernel_rfl) (by kernel_rfl))
noncomputable def asp14 : List AV × AV := ([.str [114, 99, 108, 97, 115, 115]], .tup [.int 9223372036854775807 0, .bool false, .bool false])
set_option maxRecDepth 1000000 in
theorem asm14 (X : CxOk Tryz.prog (C1 mx)) : MemoOk Tryz.prog (C1 mx) 99 asp14.1 asp14.2 := MemoOk.of_gl (by rfl) (memo_of_run ((X.told (asT1_ok X)).heard ((asH0_ok X).of_gl rfl)) (n := 4000) (f := 99) (args := asp14.1) (v := asp14.2) (by kernel_rfl) (by kernel_rfl))
noncomputable def asp15 : List AV × AV := ([.str [116, 116, 108]], .tup [.int 9223372036854775807 0, .bool false, .bool false])
set_option maxRecDepth 1000000 in
theorem asm15 (X : CxOk Tryz.prog (C1 mx)) : MemoOk Tryz.prog (C1 mx) 99 asp15.1 asp15.2 := MemoOk.of_gl (by rfl) (memo_of_run ((X.told (asT1_ok X)).heard ((asH0_ok X).of_gl rfl)) (n := 4000) (f := 99) (args := asp15.1) (v := asp15.2) (by kernel_rfl) (by kernel_rfl))
noncomputable def asp16 : List AV × AV := ([.str [108, 101, 110]], .tup [.int 9223372036854775807 0, .bool false, .bool false])
set_option maxRecDepth 1000000 in
theorem asm16 (X : CxOk Tryz.prog (C1 mx)) : MemoOk Tryz.prog (C1 mx) 99 asp16.1 asp16.2 := MemoOk.of_gl (by rfl) (memo_of_run ((X.told (asT1_ok X)).heard ((asH0_ok X).of_gl rfl)) (n := 4000) (f := 99) (args := asp16.1) (v := asp16.2) (by kernel_rfl) (by kernel_rfl))
noncomputable def asp17 : List AV × AV := ([.str [100, 97, 116, 97]], .tup [.int 9223372036854775807 0, .bool false, .bool false])
set_option maxRecDepth 1000000 in
theorem asm17 (X : CxOk Tryz.prog (C1 mx)) : MemoOk Tryz.prog (C1 mx) 99 asp17.1 asp17.2 := MemoOk.of_gl (by rfl) (memo_of_run ((X.told (asT1_ok X)).heard ((asH0_ok X).of_gl rfl)) (n := 4000) (f := 99) (args := asp17.1) (v := asp17.2) (by kernel_rfl) (by kernel_rfl))
noncomputable def asp18 : List AV × AV := ([.str [109, 97, 105, 110]], .tup [.int 9223372036854775807 0, .bool false, .bool false])
set_option maxRecDepth 1000000 in
theorem asm18 (X : CxOk Tryz.prog (C1 mx)) : MemoOk Tryz.prog (C1 mx) 99 asp18.1 asp18.2 := MemoOk.of_gl (by rfl) (memo_of_run ((X.told (asT1_ok X)).heard ((asH0_ok X).of_gl rfl)) (n := 4000) (f := 99) (args := asp18.1) (v := asp18.2) (by kernel_rfl) (by kernel_rfl))
noncomputable def asp19 : List AV × AV := ([.str [105, 100]], .tup [.int 9223372036854775807 0, .bool false, .bool false])
set_option maxRecDepth 1000000 in
theorem asm19 (X : CxOk Tryz.prog (C1 mx)) : MemoOk Tryz.prog (C1 mx) 99 asp19.1 asp19.2 := MemoOk.of_gl (by rfl) (memo_of_run ((X.told (asT1_ok X)).heard ((asH0_ok X).of_gl rfl)) (n := 4000) (f := 99) (args := asp19.1) (v := asp19.2) (by kernel_rfl) (by kernel_rfl))
noncomputable def asp20 : List AV × AV := ([.str [102, 108, 97, 103, 115]], .tup [.int 9223372036854775807 0, .bool false, .bool false])
set_option maxRecDepth 1000000 in
theorem asm20 (X : CxOk Tryz.prog (C1 mx)) : MemoOk Tryz.prog (C1 mx) 99 asp20.1 asp20.2 := MemoOk.of_gl (by rfl) (memo_of_run ((X.told (asT1_ok X)).heard ((asH0_ok X).of_gl rfl)) (n := 4000) (f := 99) (args := asp20.1) (v := asp20.2) (by kernel_rfl) (by kernel_rfl))
noncomputable def asp21 : List AV × AV := ([.str [113, 100]], .tup [.int 9223372036854775807 0, .bool false, .bool false])
set_option maxRecDepth 1000000 in
theorem asm21 (X : CxOk Tryz.prog (C1 mx)) : MemoOk Tryz.prog (C1 mx) 99 asp21.1 asp21.2 := MemoOk.of_gl (by rfl) (memo_of_run ((X.told (asT1_ok X)).heard ((asH0_ok X).of_gl rfl)) (n := 4000) (f := 99) (args := asp21.1) (v := asp21.2) (by kernel_rfl) (by kernel_rfl))
noncomputable def asp22 : List AV × AV := ([.str [113, 117, 101, 115, 116, 105, 111, 110, 115]], .tup [.int 9223372036854775807 0, .bool false, .bool false])
set_option maxRecDepth 1000000 in
theorem asm22 (X : CxOk Tryz.prog (C1 mx)) : MemoOk Tryz.prog (C1 mx) 99 asp22.1 asp22.2 := MemoOk.of_gl (by rfl) (memo_of_run ((X.told (asT1_ok X)).heard ((asH0_ok X).of_gl rfl)) (n := 4000) (f := 99) (args := asp22.1) (v := asp22.2) (by kernel_rfl) (by kernel_rfl))
noncomputable def asp23 : List AV × AV := ([.str [97, 110]], .tup [.int 9223372036854775807 0, .bool false, .bool false])
set_option maxRecDepth 1000000 in
theorem asm23 (X : CxOk Tryz.prog (C1 mx)) : MemoOk Tryz.prog (C1 mx) 99 asp23.1 asp23.2 := MemoOk.of_gl (by rfl) (memo_of_run ((X.told (asT1_ok X)).heard ((asH0_ok X).of_gl rfl)) (n := 4000) (f := 99) (args := asp23.1) (v := asp23.2) (by kernel_rfl) (by kernel_rfl))
noncomputable def asp24 : List AV × AV := ([.str [97, 110, 115, 119, 101, 114, 115]], .tup [.int 9223372036854775807 0, .bool false, .bool false])
set_option maxRecDepth 1000000 in
theorem asm24 (X : CxOk Tryz.prog (C1 mx)) : MemoOk Tryz.prog (C1 mx) 99 asp24.1 asp24.2 := MemoOk.of_gl (by rfl) (memo_of_run ((X.told (asT1_ok X)).heard ((asH0_ok X).of_gl rfl)) (n := 4000) (f := 99) (args := asp24.1) (v := asp24.2) (by kernel_rfl) (by kernel_rfl))
noncomputable def asp25 : List AV × AV := ([.str [110, 115]], .tup [.int 9223372036854775807 0, .bool false, .bool false])
set_option maxRecDepth 1000000 in
theorem asm25 (X : CxOk Tryz.prog (C1 mx)) : MemoOk Tryz.prog (C1 mx) 99 asp25.1 asp25.2 := MemoOk.of_gl (by rfl) (memo_of_run ((X.told (asT1_ok X)).heard ((asH0_ok X).of_gl rfl)) (n := 4000) (f := 99) (args := asp25.1) (v := asp25.2) (by kernel_rfl) (by kernel_rfl))
noncomputable def asp26 : List AV × AV := ([.str [97, 117, 116, 104, 111, 114, 105, 116, 121]], .tup [.int 9223372036854775807 0, .bool false, .bool false])
set_option maxRecDepth 1000000 in
theorem asm26 (X : CxOk Tryz.prog (C1 mx)) : MemoOk Tryz.prog (C1 mx) 99 asp26.1 asp26.2 := MemoOk.of_gl (by rfl) (memo_of_run ((X.told (asT1_ok X)).heard ((asH0_ok X).of_gl rfl)) (n := 4000) (f := 99) (args := asp26.1) (v := asp26.2) (by kernel_rfl) (by kernel_rfl))
noncomputable def asp27 : List AV × AV := ([.str [97, 114]], .tup [.int 9223372036854775807 0, .bool false, .bool false])
set_option maxRecDepth 1000000 in
theorem asm27 (X : CxOk Tryz.prog (C1 mx)) : MemoOk Tryz.prog (C1 mx) 99 asp27.1 asp27.2 := MemoOk.of_gl (by rfl) (memo_of_run ((X.told (asT1_ok X)).heard ((asH0_ok X).of_gl rfl)) (n := 4000) (f := 99) (args := asp27.1) (v := asp27.2) (by kernel_rfl) (by kernel_rfl))
noncomputable def asp28 : List AV × AV := ([.str [97, 100, 100, 105, 116, 105, 111, 110, 97, 108]], .tup [.int 9223372036854775807 0, .bool false, .bool false])
set_option maxRecDepth 1000000 in
theorem asm28 (X : CxOk Tryz.prog (C1 mx)) : MemoOk Tryz.prog (C1 mx) 99 asp28.1 asp28.2 := MemoOk.of_gl (by rfl) (memo_of_run ((X.told (asT1_ok X)).heard ((asH0_ok X).of_gl rfl)) (n := 4000) (f := 99) (args := asp28.1) (v := asp28.2) (by kernel_rfl) (by kernel_rfl))
noncomputable def asp29 : List AV × AV := ([.str [116, 105, 109, 101, 115]], .tup [.int 9223372036854775807 0, .bool false, .bool false])
set_option maxRecDepth 1000000 in
theorem asm29 (X : CxOk Tryz.prog (C1 mx)) : MemoOk Tryz.prog (C1 mx) 99 asp29.1 asp29.2 := MemoOk.of_gl (by rfl) (memo_of_run ((X.told (asT1_ok X)).heard ((asH0_ok X).of_gl rfl)) (n := 4000) (f := 99) (args := asp29.1) (v := asp29.2) (by kernel_rfl) (by kernel_rfl))
noncomputable def asv30_1 : AV := .agg [.int 9223372036854775807 13, .int 9223372036854775807 0, .bool false, .bool false, .bool false, .int 18446744073709551615 0, .int 18446744073709551615 0, .str [110, 97, 109, 101], .str [], .int 18446744073709551615 0, .int 18446744073709551615 0, .nils, .nils, .nils, .str [], .int 18446744073709551615 0, .nils, .int 9223372036854775807 0]
noncomputable def asp30 : List AV × AV := ([asv30_1], .int 9223372036854775807 0)
set_option maxRecDepth 1000000 in
theorem asm30 (X : CxOk Tryz.prog (C1 mx)) : MemoOk Tryz.prog (C1 mx) 102 asp30.1 asp30.2 := MemoOk.of_gl (by rfl) (memo_of_run ((X.told (asT1_ok X)).heard ((asH0_ok X).of_gl rfl)) (n := 4000) (f := 102) (args := asp30.1) (v := asp30.2) (by kernel_rfl) (by kernel_rfl))
noncomputable def asv31_1 : AV := .agg [.int 9223372036854775807 1, .int 9223372036854775807 2, .bool false, .bool false, .bool false, .int 18446744073709551615 0, .int 18446744073709551615 65535, .str [], .str [], .int 18446744073709551615 0, .int 18446744073709551615 0, .nils, .nils, .nils, .str [], .int 18446744073709551615 0, .nils, .int 9223372036854775807 0]
noncomputable def asp31 : List AV × AV := ([asv31_1], .int 9223372036854775807 0)
set_option maxRecDepth 1000000 in
theorem asm31 (X : CxOk Tryz.prog (C1 mx)) : MemoOk Tryz.prog (C1 mx) 102 asp31.1 asp31.2 := MemoOk.of_gl (by rfl) (memo_of_run ((X.told (asT1_ok X)).heard ((asH0_ok X).of_gl rfl)) (n := 4000) (f := 102) (args := asp31.1) (v := asp31.2) (by kernel_rfl) (by kernel_rfl))
noncomputable def asv32_1 : AV := .agg [.int 9223372036854775807 13, .int 9223372036854775807 0, .bool false, .bool false, .bool false, .int 18446744073709551615 0, .int 18446744073709551615 0, .str [114, 101, 99, 111, 114, 100], .str [], .int 18446744073709551615 0, .int 18446744073709551615 0, .nils, .nils, .nils, .str [], .int 18446744073709551615 0, .nils, .int 9223372036854775807 0]
noncomputable def asp32 : List AV × AV := ([asv32_1], .int 9223372036854775807 0)
set_option maxRecDepth 1000000 in
theorem asm32 (X : CxOk Tryz.prog (C1 mx)) : MemoOk Tryz.prog (C1 mx) 102 asp32.1 asp32.2 := MemoOk.of_gl (by rfl) (memo_of_run ((X.told (asT1_ok X)).heard ((asH0_ok X).of_gl rfl)) (n := 4000) (f := 102) (args := asp32.1) (v := asp32.2) (by kernel_rfl) (by kernel_rfl))
end Go.Proofs.YtgjoogfoeomcdaaGreatDoor
