/- The law ShelfNames: its run. The function's code is printed by a program. -/
import Derived.Test.YtdkioifmieamoaaGreatDoorSt
namespace Go.Proofs.YtdkioifmieamoaaGreatDoor
set_option linter.unusedSimpArgs false
set_option linter.unusedVariables false
set_option linter.unnecessarySimpa false
set_option linter.defProp false
noncomputable section
/- guipure/guipurelaw26.ShelfNames -/
def kLaw_T (v0 v1 v4 v5 v6 v7 v8 v9 v11 v12 v14 v22 v25 v26 v27 v28 v29 v35 v44 v45 v46 v47 v68 v69 v73 v74 v79 v80 v85 v105 v127 v153 : AV) : Tm := (.nd 29 (.nd 11 (.nd 6 (.nd 4 (.nd 1 (.lf 0 v0) (.lf 1 v1)) (.nd 5 (.lf 4 v4) (.lf 5 v5))) (.nd 8 (.nd 7 (.lf 6 v6) (.lf 7 v7)) (.nd 9 (.lf 8 v8) (.lf 9 v9)))) (.nd 25 (.nd 14 (.nd 12 (.lf 11 v11) (.lf 12 v12)) (.nd 22 (.lf 14 v14) (.lf 22 v22))) (.nd 27 (.nd 26 (.lf 25 v25) (.lf 26 v26)) (.nd 28 (.lf 27 v27) (.lf 28 v28))))) (.nd 73 (.nd 46 (.nd 44 (.nd 35 (.lf 29 v29) (.lf 35 v35)) (.nd 45 (.lf 44 v44) (.lf 45 v45))) (.nd 68 (.nd 47 (.lf 46 v46) (.lf 47 v47)) (.nd 69 (.lf 68 v68) (.lf 69 v69)))) (.nd 85 (.nd 79 (.nd 74 (.lf 73 v73) (.lf 74 v74)) (.nd 80 (.lf 79 v79) (.lf 80 v80))) (.nd 127 (.nd 105 (.lf 85 v85) (.lf 105 v105)) (.nd 153 (.lf 127 v127) (.lf 153 v153))))))
def kLaw_0 (mx : Int) : K := kAt [] (kOf (CL mx) 3)
def kLaw_1 (mx : Int) : K := kAt [1, 1, 1, 1, 1, 1, 0] (kOf (CL mx) 3)
def kLaw_2 (mx : Int) : K := kAt [1, 1, 1, 1, 1, 1, 1] (kOf (CL mx) 3)
def kLaw_3 (mx : Int) : K := kAt [1, 1, 1, 1, 1, 1, 0, 1, 0, 0] (kOf (CL mx) 3)
def kLaw_4 (mx : Int) : K := kAt [1, 1, 1, 1, 1, 1, 0, 1, 0, 0, 1, 1, 0] (kOf (CL mx) 3)
def kLaw_5 (mx : Int) : K := kAt [1, 1, 1, 1, 1, 1, 0, 1, 0, 0, 1, 1, 1] (kOf (CL mx) 3)
def kLaw_6 (mx : Int) : K := kAt [1, 1, 1, 1, 1, 1, 0, 1, 0, 0, 1, 1, 0, 0, 1, 1, 1, 0] (kOf (CL mx) 3)
def kLaw_7 (mx : Int) : K := kAt [1, 1, 1, 1, 1, 1, 0, 1, 0, 0, 1, 1, 0, 0, 1, 1, 1, 1] (kOf (CL mx) 3)
def kLaw_8 (mx : Int) : K := kAt [1, 1, 1, 1, 1, 1, 0, 1, 0, 0, 1, 1, 0, 0, 1, 1, 1, 0, 1, 0, 0] (kOf (CL mx) 3)
def kLaw_9 (mx : Int) : K := kAt [1, 1, 1, 1, 1, 1, 0, 1, 0, 0, 1, 1, 0, 0, 1, 1, 1, 1, 1, 0] (kOf (CL mx) 3)
def kLaw_10 (mx : Int) : K := kAt [1, 1, 1, 1, 1, 1, 0, 1, 0, 0, 1, 1, 0, 0, 1, 1, 1, 1, 1, 1] (kOf (CL mx) 3)
def kLaw_11 (mx : Int) : K := kAt [1, 1, 1, 1, 1, 1, 0, 1, 0, 0, 1, 1, 0, 0, 1, 1, 1, 1, 1, 1, 0] (kOf (CL mx) 3)
def kLaw_12 (mx : Int) : K := kAt [1, 1, 1, 1, 1, 1, 0, 1, 0, 0, 1, 1, 0, 0, 1, 1, 1, 1, 1, 1, 1] (kOf (CL mx) 3)
def kLaw_13 (mx : Int) : K := kAt [1, 1, 1, 1, 1, 1, 0, 1, 0, 0, 1, 1, 0, 0, 1, 1, 1, 1, 1, 1, 0, 1, 0, 1] (kOf (CL mx) 3)
section
set_option maxRecDepth 100000
variable (mx : Int) (run : Run) (lp : Lp) (κn : Kt) (κx : Ex → Kt) (h : AH) (v0 v1 v4 v5 v6 v7 v8 v9 v11 v12 v14 v22 v25 v26 v27 v28 v29 v35 v44 v45 v46 v47 v68 v69 v73 v74 v79 v80 v85 v105 v127 v153 : AV)
theorem kLaw_0_eq : kc (CL mx) run lp (kLaw_0 mx) ⟨kLaw_T v0 v1 v4 v5 v6 v7 v8 v9 v11 v12 v14 v22 v25 v26 v27 v28 v29 v35 v44 v45 v46 v47 v68 v69 v73 v74 v79 v80 v85 v105 v127 v153, h⟩ κn κx = withX (fun a0 h => notA a0 h (fun a1 h => kcIf a1 (κx .ret ⟨kLaw_T v0 v1 (.bool false) v5 v6 v7 v8 v9 v11 v12 a1 v22 v25 v26 v27 v28 v29 v35 v44 v45 v46 v47 v68 v69 v73 v74 v79 v80 v85 v105 v127 v153, h⟩) (lenS v0 h (fun a2 h => cmp igt a2 (.int 9223372036854775807 150) h (fun a3 h => guardC a3 false (fun κ => moveA v1 h κ) h (fun a4 h => guardC a3 false (fun κ => lenS a4 h κ) h (fun a5 h => guardC a3 false (fun κ => cmp igt a5 (.int 9223372036854775807 150) h κ) h (fun a6 h => pickA a3 (.bool true) a6 h (fun a7 h => kcIf a7 (κx .ret ⟨kLaw_T v0 v1 (.bool true) v5 v6 v7 v8 v9 v11 v12 a1 a7 v25 v26 v27 v28 v29 v35 v44 v45 v46 v47 v68 v69 v73 v74 v79 v80 v85 v105 v127 v153, h⟩) (withX (fun a8 h => eqlA ⟨(.pointer 92), 1, 8, [.nil], false, false⟩ a8 (.nil) h (fun a9 h => kcIf a9 (κx .ret ⟨kLaw_T v0 v1 (.bool false) a8 v6 v7 v8 v9 v11 v12 a1 a7 a9 v26 v27 v28 v29 v35 v44 v45 v46 v47 v68 v69 v73 v74 v79 v80 v85 v105 v127 v153, h⟩) (kc (CL mx) run lp (kLaw_1 mx) ⟨kLaw_T v0 v1 (.bool false) a8 (.nils) v7 v8 v9 v11 v12 a1 a7 a9 v26 v27 v28 v29 v35 v44 v45 v46 v47 v68 v69 v73 v74 v79 v80 v85 v105 v127 v153, h⟩ (fun s => kc (CL mx) run lp (kLaw_2 mx) s κn κx) κx))) (callA (CL mx) run 5 [] h))))))))))) (callA (CL mx) run 4 [] h) := by kernel_rfl
theorem kLaw_1_eq : kc (CL mx) run lp (kLaw_1 mx) ⟨kLaw_T v0 v1 v4 v5 v6 v7 v8 v9 v11 v12 v14 v22 v25 v26 v27 v28 v29 v35 v44 v45 v46 v47 v68 v69 v73 v74 v79 v80 v85 v105 v127 v153, h⟩ κn κx = lenS v0 h (fun a0 h => kcR κn (kcO 0 κn κx) (lp (kLaw_3 mx) ⟨kLaw_T v0 v1 v4 v5 v6 v7 v8 v9 v11 v12 v14 v22 v25 v0 a0 (.int 9223372036854775807 0) v29 v35 v44 v45 v46 v47 v68 v69 v73 v74 v79 v80 v85 v105 v127 v153, h⟩)) := by kernel_rfl
theorem kLaw_2_eq : kc (CL mx) run lp (kLaw_2 mx) ⟨kLaw_T v0 v1 v4 v5 v6 v7 v8 v9 v11 v12 v14 v22 v25 v26 v27 v28 v29 v35 v44 v45 v46 v47 v68 v69 v73 v74 v79 v80 v85 v105 v127 v153, h⟩ κn κx = κx .ret ⟨kLaw_T v0 v1 (.bool true) v5 v6 v7 v8 v9 v11 v12 v14 v22 v25 v26 v27 v28 v29 v35 v44 v45 v46 v47 v68 v69 v73 v74 v79 v80 v85 v105 v127 v153, h⟩ := by kernel_rfl
theorem kLaw_3_eq : kc (CL mx) run lp (kLaw_3 mx) ⟨kLaw_T v0 v1 v4 v5 v6 v7 v8 v9 v11 v12 v14 v22 v25 v26 v27 v28 v29 v35 v44 v45 v46 v47 v68 v69 v73 v74 v79 v80 v85 v105 v127 v153, h⟩ κn κx = cmp ilt v28 v27 h (fun a0 h => kcIf a0 (kc (CL mx) run lp (kLaw_4 mx) ⟨kLaw_T v0 v1 v4 v5 v6 v7 v8 v9 v11 v12 v14 v22 v25 v26 v27 v28 a0 v35 v44 v45 v46 v47 v68 v69 v73 v74 v79 v80 v85 v105 v127 v153, h⟩ (fun s => kc (CL mx) run lp (kLaw_5 mx) s κn κx) κx) (κx (.exit 0) ⟨kLaw_T v0 v1 v4 v5 v6 v7 v8 v9 v11 v12 v14 v22 v25 v26 v27 v28 a0 v35 v44 v45 v46 v47 v68 v69 v73 v74 v79 v80 v85 v105 v127 v153, h⟩)) := by kernel_rfl
theorem kLaw_4_eq : kc (CL mx) run lp (kLaw_4 mx) ⟨kLaw_T v0 v1 v4 v5 v6 v7 v8 v9 v11 v12 v14 v22 v25 v26 v27 v28 v29 v35 v44 v45 v46 v47 v68 v69 v73 v74 v79 v80 v85 v105 v127 v153, h⟩ κn κx = idxS 1 v26 v28 h (fun a0 h => load1 a0 h (fun a1 h => lenT a1 h (fun a2 h => cmp igt a2 (.int 9223372036854775807 200) h (fun a3 h => kcIf a3 (κx .ret ⟨kLaw_T v0 v1 (.bool true) v5 v6 v28 a1 v9 v11 v12 v14 v22 v25 v26 v27 v28 v29 a3 v44 v45 v46 v47 v68 v69 v73 v74 v79 v80 v85 v105 v127 v153, h⟩) (strCmp neS a1 (.str []) h (fun a4 h => guardC a4 true (fun κ => moveA a1 h κ) h (fun a5 h => guardC a4 true (fun κ => lenT a5 h κ) h (fun a6 h => guardC a4 true (fun κ => cmp ile a6 (.int 9223372036854775807 32) h κ) h (fun a7 h => pickA a4 a7 (.bool false) h (fun a8 h => kc (CL mx) run lp (kLaw_6 mx) ⟨kLaw_T v0 v1 v4 v5 v6 v28 a1 a8 v11 v12 v14 v22 v25 v26 v27 v28 v29 a3 v44 v45 v46 v47 v68 v69 v73 v74 v79 v80 v85 v105 v127 v153, h⟩ (fun s => kc (CL mx) run lp (kLaw_7 mx) s κn (kcO 1 κn κx)) (kcO 1 κn κx))))))))))) := by kernel_rfl
theorem kLaw_5_eq : kc (CL mx) run lp (kLaw_5 mx) ⟨kLaw_T v0 v1 v4 v5 v6 v7 v8 v9 v11 v12 v14 v22 v25 v26 v27 v28 v29 v35 v44 v45 v46 v47 v68 v69 v73 v74 v79 v80 v85 v105 v127 v153, h⟩ κn κx = arith iadd v28 (.int 9223372036854775807 1) h (fun a0 h => κn ⟨kLaw_T v0 v1 v4 v5 v6 v7 v8 v9 v11 v12 v14 v22 v25 v26 v27 a0 v29 v35 v44 v45 v46 v47 v68 v69 v73 v74 v79 v80 v85 v105 v127 v153, h⟩) := by kernel_rfl
theorem kLaw_6_eq : kc (CL mx) run lp (kLaw_6 mx) ⟨kLaw_T v0 v1 v4 v5 v6 v7 v8 v9 v11 v12 v14 v22 v25 v26 v27 v28 v29 v35 v44 v45 v46 v47 v68 v69 v73 v74 v79 v80 v85 v105 v127 v153, h⟩ κn κx = strBytes v8 h (fun a0 h => lenS a0 h (fun a1 h => kcR κn (kcO 2 κn κx) (lp (kLaw_8 mx) ⟨kLaw_T v0 v1 v4 v5 v6 v7 v8 v9 v11 v12 v14 v22 v25 v26 v27 v28 v29 v35 a0 a1 (.int 9223372036854775807 0) v47 v68 v69 v73 v74 v79 v80 v85 v105 v127 v153, h⟩))) := by kernel_rfl
theorem kLaw_7_eq : kc (CL mx) run lp (kLaw_7 mx) ⟨kLaw_T v0 v1 v4 v5 v6 v7 v8 v9 v11 v12 v14 v22 v25 v26 v27 v28 v29 v35 v44 v45 v46 v47 v68 v69 v73 v74 v79 v80 v85 v105 v127 v153, h⟩ κn κx = withX (fun a0 h => kc (CL mx) run lp (kLaw_9 mx) ⟨kLaw_T v0 v1 v4 v5 v6 v7 v8 v9 v11 a0 v14 v22 v25 v26 v27 v28 v29 v35 v44 v45 v46 v47 v68 v69 v73 v74 v79 v80 v85 v105 v127 v153, h⟩ (fun s => kc (CL mx) run lp (kLaw_10 mx) s κn κx) κx) (callA (CL mx) run 6 [v5, v8, (.str [109, 97, 105, 110, 32, 61, 32, 117, 56, 59])] h) := by kernel_rfl
theorem kLaw_8_eq : kc (CL mx) run lp (kLaw_8 mx) ⟨kLaw_T v0 v1 v4 v5 v6 v7 v8 v9 v11 v12 v14 v22 v25 v26 v27 v28 v29 v35 v44 v45 v46 v47 v68 v69 v73 v74 v79 v80 v85 v105 v127 v153, h⟩ κn κx = cmp ilt v46 v45 h (fun a0 h => kcIf a0 (idxS 1 v44 v46 h (fun a1 h => load1 a1 h (fun a2 h => guardC v9 true (fun κ => moveA a2 h κ) h (fun a3 h => guardC v9 true (fun κ => cmp igt a3 (.int 255 32) h κ) h (fun a4 h => pickA v9 a4 (.bool false) h (fun a5 h => guardC a5 true (fun κ => moveA a2 h κ) h (fun a6 h => guardC a5 true (fun κ => cmp ilt a6 (.int 255 127) h κ) h (fun a7 h => pickA a5 a7 (.bool false) h (fun a8 h => arith iadd v46 (.int 9223372036854775807 1) h (fun a9 h => κn ⟨kLaw_T v0 v1 v4 v5 v6 v7 v8 a8 a2 v12 v14 v22 v25 v26 v27 v28 v29 v35 v44 v45 a9 a0 v68 v69 v73 v74 v79 v80 v85 v105 v127 v153, h⟩)))))))))) (κx (.exit 2) ⟨kLaw_T v0 v1 v4 v5 v6 v7 v8 v9 v11 v12 v14 v22 v25 v26 v27 v28 v29 v35 v44 v45 v46 a0 v68 v69 v73 v74 v79 v80 v85 v105 v127 v153, h⟩)) := by kernel_rfl
theorem kLaw_9_eq : kc (CL mx) run lp (kLaw_9 mx) ⟨kLaw_T v0 v1 v4 v5 v6 v7 v8 v9 v11 v12 v14 v22 v25 v26 v27 v28 v29 v35 v44 v45 v46 v47 v68 v69 v73 v74 v79 v80 v85 v105 v127 v153, h⟩ κn κx = notA v9 h (fun a0 h => kcIf a0 (cmp ine v12 (.int 9223372036854775807 5) h (fun a1 h => kcIf a1 (κx .ret ⟨kLaw_T v0 v1 (.bool false) v5 v6 v7 v8 v9 v11 v12 v14 v22 v25 v26 v27 v28 v29 v35 v44 v45 v46 v47 v68 a0 a1 v74 v79 v80 v85 v105 v127 v153, h⟩) (κn ⟨kLaw_T v0 v1 v4 v5 v6 v7 v8 v9 v11 v12 v14 v22 v25 v26 v27 v28 v29 v35 v44 v45 v46 v47 v68 a0 a1 v74 v79 v80 v85 v105 v127 v153, h⟩))) (withX (fun a1 h => kcIf a1 (cmp ine v12 (.int 9223372036854775807 4) h (fun a2 h => kcIf a2 (κx .ret ⟨kLaw_T v0 v1 (.bool false) v5 v6 v7 v8 v9 v11 v12 v14 v22 v25 v26 v27 v28 v29 v35 v44 v45 v46 v47 v68 a0 v73 a1 a2 v80 v85 v105 v127 v153, h⟩) (κn ⟨kLaw_T v0 v1 v4 v5 v6 v7 v8 v9 v11 v12 v14 v22 v25 v26 v27 v28 v29 v35 v44 v45 v46 v47 v68 a0 v73 a1 a2 v80 v85 v105 v127 v153, h⟩))) (lenS v6 h (fun a2 h => cmp ibeq a2 (.int 9223372036854775807 64) h (fun a3 h => kcIf a3 (cmp ine v12 (.int 9223372036854775807 2) h (fun a4 h => kcIf a4 (κx .ret ⟨kLaw_T v0 v1 (.bool false) v5 v6 v7 v8 v9 v11 v12 v14 v22 v25 v26 v27 v28 v29 v35 v44 v45 v46 v47 v68 a0 v73 a1 v79 a3 a4 v105 v127 v153, h⟩) (κn ⟨kLaw_T v0 v1 v4 v5 v6 v7 v8 v9 v11 v12 v14 v22 v25 v26 v27 v28 v29 v35 v44 v45 v46 v47 v68 a0 v73 a1 v79 a3 a4 v105 v127 v153, h⟩))) (bldS 1 1 [.str []] [(0, v8)] h (fun a4 h => appA 10 1 16 v6 a4 h (fun a5 h => cmp ine v12 (.int 9223372036854775807 0) h (fun a6 h => kcIf a6 (κx .ret ⟨kLaw_T v0 v1 (.bool false) v5 a5 v7 v8 v9 v11 v12 v14 v22 v25 v26 v27 v28 v29 v35 v44 v45 v46 v47 a6 a0 v73 a1 v79 a3 v85 v105 v127 v153, h⟩) (κn ⟨kLaw_T v0 v1 v4 v5 a5 v7 v8 v9 v11 v12 v14 v22 v25 v26 v27 v28 v29 v35 v44 v45 v46 v47 a6 a0 v73 a1 v79 a3 v85 v105 v127 v153, h⟩))))))))) (callA (CL mx) run 7 [v6, v8] h))) := by kernel_rfl
theorem kLaw_10_eq : kc (CL mx) run lp (kLaw_10 mx) ⟨kLaw_T v0 v1 v4 v5 v6 v7 v8 v9 v11 v12 v14 v22 v25 v26 v27 v28 v29 v35 v44 v45 v46 v47 v68 v69 v73 v74 v79 v80 v85 v105 v127 v153, h⟩ κn κx = kc (CL mx) run lp (kLaw_11 mx) ⟨kLaw_T v0 v1 v4 v5 v6 v7 v8 v9 v11 v12 v14 v22 v25 v26 v27 v28 v29 v35 v44 v45 v46 v47 v68 v69 v73 v74 v79 v80 v85 v105 v127 v153, h⟩ (fun s => kc (CL mx) run lp (kLaw_12 mx) s κn κx) κx := by kernel_rfl
theorem kLaw_11_eq : kc (CL mx) run lp (kLaw_11 mx) ⟨kLaw_T v0 v1 v4 v5 v6 v7 v8 v9 v11 v12 v14 v22 v25 v26 v27 v28 v29 v35 v44 v45 v46 v47 v68 v69 v73 v74 v79 v80 v85 v105 v127 v153, h⟩ κn κx = lenS v1 h (fun a0 h => cmp ilt v7 a0 h (fun a1 h => guardC a1 true (fun κ => moveA v1 h κ) h (fun a2 h => guardC a1 true (fun κ => moveA v7 h κ) h (fun a3 h => guardC a1 true (fun κ => idxS 1 a2 a3 h κ) h (fun a4 h => guardC a1 true (fun κ => load1 a4 h κ) h (fun a5 h => guardC a1 true (fun κ => cmp ige a5 (.int 9223372036854775807 0) h κ) h (fun a6 h => pickA a1 a6 (.bool false) h (fun a7 h => guardC a7 true (fun κ => moveA v1 h κ) h (fun a8 h => guardC a7 true (fun κ => moveA v7 h κ) h (fun a9 h => guardC a7 true (fun κ => idxS 1 a8 a9 h κ) h (fun a10 h => guardC a7 true (fun κ => load1 a10 h κ) h (fun a11 h => guardC a7 true (fun κ => moveA v6 h κ) h (fun a12 h => guardC a7 true (fun κ => lenS a12 h κ) h (fun a13 h => guardC a7 true (fun κ => cmp ilt a11 a13 h κ) h (fun a14 h => pickA a7 a14 (.bool false) h (fun a15 h => kcIf a15 (idxS 1 v1 v7 h (fun a16 h => load1 a16 h (fun a17 h => idxS 1 v6 a17 h (fun a18 h => load1 a18 h (fun a19 h => withX (fun a20 h => cmp ine a20 (.int 9223372036854775807 0) h (fun a21 h => guardC a21 false (fun κ => moveA v5 h κ) h (fun a22 h => guardC a21 false (fun κ => moveA v6 h κ) h (fun a23 h => guardC a21 false (fun κ => moveA v1 h κ) h (fun a24 h => guardC a21 false (fun κ => moveA v7 h κ) h (fun a25 h => guardC a21 false (fun κ => idxS 1 a24 a25 h κ) h (fun a26 h => guardC a21 false (fun κ => load1 a26 h κ) h (fun a27 h => guardC a21 false (fun κ => idxS 1 a23 a27 h κ) h (fun a28 h => guardC a21 false (fun κ => load1 a28 h κ) h (fun a29 h => guardC a21 false (fun κ => withX κ (callA (CL mx) run 8 [a22, a29] h)) h (fun a30 h => guardC a21 false (fun κ => cmp ine a30 (.int 9223372036854775807 3) h κ) h (fun a31 h => pickA a21 (.bool true) a31 h (fun a32 h => kcIf a32 (κx .ret ⟨kLaw_T v0 v1 (.bool false) v5 v6 v7 v8 v9 v11 v12 v14 v22 v25 v26 v27 v28 v29 v35 v44 v45 v46 v47 v68 v69 v73 v74 v79 v80 v85 a15 a32 v153, h⟩) (kc (CL mx) run lp (kLaw_13 mx) ⟨kLaw_T v0 v1 v4 v5 v6 v7 v8 v9 v11 v12 v14 v22 v25 v26 v27 v28 v29 v35 v44 v45 v46 v47 v68 v69 v73 v74 v79 v80 v85 a15 a32 v153, h⟩ κn κx)))))))))))))) (callA (CL mx) run 8 [v5, a19] h)))))) (κn ⟨kLaw_T v0 v1 v4 v5 v6 v7 v8 v9 v11 v12 v14 v22 v25 v26 v27 v28 v29 v35 v44 v45 v46 v47 v68 v69 v73 v74 v79 v80 v85 a15 v127 v153, h⟩))))))))))))))))) := by kernel_rfl
theorem kLaw_12_eq : kc (CL mx) run lp (kLaw_12 mx) ⟨kLaw_T v0 v1 v4 v5 v6 v7 v8 v9 v11 v12 v14 v22 v25 v26 v27 v28 v29 v35 v44 v45 v46 v47 v68 v69 v73 v74 v79 v80 v85 v105 v127 v153, h⟩ κn κx = withX (fun a0 h => withX (fun a1 h => notA a1 h (fun a2 h => guardC a2 false (fun κ => moveA v5 h κ) h (fun a3 h => guardC a2 false (fun κ => moveA v8 h κ) h (fun a4 h => guardC a2 false (fun κ => withX κ (callA (CL mx) run 12 [a3, a4] h)) h (fun a5 h => guardC a2 false (fun κ => neqA ⟨(.pointer 89), 1, 8, [.nil], false, false⟩ a5 (.nil) h κ) h (fun a6 h => guardC a2 false (fun κ => moveA v6 h κ) h (fun a7 h => guardC a2 false (fun κ => moveA v8 h κ) h (fun a8 h => guardC a2 false (fun κ => withX κ (callA (CL mx) run 7 [a7, a8] h)) h (fun a9 h => guardC a2 false (fun κ => neqA ⟨.bool, 1, 1, [.bool false], false, true⟩ a6 a9 h κ) h (fun a10 h => pickA a2 (.bool true) a10 h (fun a11 h => kcIf a11 (κx .ret ⟨kLaw_T v0 v1 (.bool false) v5 v6 v7 v8 v9 v11 v12 v14 v22 v25 v26 v27 v28 v29 v35 v44 v45 v46 v47 v68 v69 v73 v74 v79 v80 v85 v105 v127 a11, h⟩) (κn ⟨kLaw_T v0 v1 v4 v5 v6 v7 v8 v9 v11 v12 v14 v22 v25 v26 v27 v28 v29 v35 v44 v45 v46 v47 v68 v69 v73 v74 v79 v80 v85 v105 v127 a11, h⟩)))))))))))) (callA (CL mx) run 10 [a0, v6] h)) (callA (CL mx) run 11 [v5] h) := by kernel_rfl
theorem kLaw_13_eq : kc (CL mx) run lp (kLaw_13 mx) ⟨kLaw_T v0 v1 v4 v5 v6 v7 v8 v9 v11 v12 v14 v22 v25 v26 v27 v28 v29 v35 v44 v45 v46 v47 v68 v69 v73 v74 v79 v80 v85 v105 v127 v153, h⟩ κn κx = idxS 1 v1 v7 h (fun a0 h => load1 a0 h (fun a1 h => idxS 1 v1 v7 h (fun a2 h => load1 a2 h (fun a3 h => arith iadd a3 (.int 9223372036854775807 1) h (fun a4 h => withX (fun a5 h1 => bq (Nat.ble (flen h) (flen h1)) ((fun h => κn ⟨kLaw_T v0 v1 v4 v5 a5 v7 v8 v9 v11 v12 v14 v22 v25 v26 v27 v28 v29 v35 v44 v45 v46 v47 v68 v69 v73 v74 v79 v80 v85 v105 v127 v153, h⟩) h1) none) (callA (CL mx) run 9 [v6, a1, a4] h)))))) := (plain_kc (C := CL mx) (ops := opsOf (cAt [1, 1, 1, 1, 1, 1, 0, 1, 0, 0, 1, 1, 0, 0, 1, 1, 1, 1, 1, 1, 0, 1, 0, 1] (codeOf (CL mx) 3))) (ps := [0, 1, 4, 5, 6, 7, 8, 9, 11, 12, 14, 22, 25, 26, 27, 28, 29, 35, 44, 45, 46, 47, 68, 69, 73, 74, 79, 80, 85, 105, 127, 153]) (by kernel_rfl) (by kernel_rfl) _ _ _).trans (by kernel_rfl)
theorem kLaw_end : kcE (CL mx) [.tmp 4] ⟨kLaw_T v0 v1 v4 v5 v6 v7 v8 v9 v11 v12 v14 v22 v25 v26 v27 v28 v29 v35 v44 v45 v46 v47 v68 v69 v73 v74 v79 v80 v85 v105 v127 v153, h⟩ = some (.vh v4 h) := (kcE_eq _ _ _).trans (by kernel_rfl)
theorem kLaw_fk : fkAt (CL mx) 3 = some ⟨kLaw_0 mx, [0, 1, 4, 5, 6, 7, 8, 9, 11, 12, 14, 22, 25, 26, 27, 28, 29, 35, 44, 45, 46, 47, 68, 69, 73, 74, 79, 80, 85, 105, 127, 153], 155, [.tmp 4]⟩ := by kernel_rfl
end
theorem kLaw_run (mx : Int) (run : Run) (lp : Lp) (x0 x1 : AV) (h : AH) : runF (CL mx) run lp 3 [x0, x1] h = vhO (kc (CL mx) run lp (kLaw_0 mx) ⟨kLaw_T x0 x1 .bot .bot .bot .bot .bot .bot .bot .bot .bot .bot .bot .bot .bot .bot .bot .bot .bot .bot .bot .bot .bot .bot .bot .bot .bot .bot .bot .bot .bot .bot, h⟩ (kcE (CL mx) [.tmp 4]) (kcQ (CL mx) [.tmp 4])) := (run_kc (by kernel_rfl) (kLaw_fk mx) (by kernel_rfl)).trans (by kernel_rfl)
theorem kLaw_nat (mx : Int) (p : List Nat) : NatK (CL mx) (kAt p (kOf (CL mx) 3)) := kAt_nat p (kOf_nat (CL mx) 3)
def kLaw_s := And.intro @kLaw_0_eq (And.intro @kLaw_1_eq (And.intro @kLaw_2_eq (And.intro @kLaw_3_eq (And.intro @kLaw_4_eq (And.intro @kLaw_5_eq (And.intro @kLaw_6_eq (And.intro @kLaw_7_eq (And.intro @kLaw_8_eq (And.intro @kLaw_9_eq (And.intro @kLaw_10_eq (And.intro @kLaw_11_eq (And.intro @kLaw_12_eq (And.intro @kLaw_13_eq (@kLaw_end))))))))))))))
def intsA (l : List Int) : List AV := l.map fun d => AV.int 9223372036854775807 d
end
section
variable {mx : Int} {Q : Option Rs → Prop} {κn : Kt} {κx : Ex → Kt} {lp : Lp} {kd : Nat → Nat} {h : AH} {bs : Nat} {L : List (List Nat)} {n : List Nat} {v0 v1 v4 v5 v6 v7 v8 v9 v11 v12 v14 v22 v25 v26 v27 v28 v29 v35 v44 v45 v46 v47 v68 v69 v73 v74 v79 v80 v85 v105 v127 v153 : AV}
/-- Is each byte right? -/
def okB (l : List Nat) : Bool := l.all fun c => decide (32 < c) && decide (c < 127)
theorem law_loop8 (h44 : SlAt h v44 (bytesA n)) (hb : n.length ≤ 1000) : ∀ (R P : List Nat) (f : Nat) (g : Bool) (v11 v47 : AV), n = P ++ R → R.length + 2 ≤ f →
    (∀ v11 v46 v47, Q (κx (.exit 2) ⟨kLaw_T v0 v1 v4 v5 v6 v7 v8 (.bool (g && okB R)) v11 v12 v14 v22 v25 v26 v27 v28 v29 v35 v44 (.int 9223372036854775807 (n.length : Int)) v46 v47 v68 v69 v73 v74 v79 v80 v85 v105 v127 v153, h⟩)) →
    Q (kcR κn κx ((rl (CL mx) f).lp (kLaw_8 mx) ⟨kLaw_T v0 v1 v4 v5 v6 v7 v8 (.bool g) v11 v12 v14 v22 v25 v26 v27 v28 v29 v35 v44 (.int 9223372036854775807 (n.length : Int)) (.int 9223372036854775807 (P.length : Int)) v47 v68 v69 v73 v74 v79 v80 v85 v105 v127 v153, h⟩)) := by
  intro R
  induction R with
  | nil =>
    intro P f g v11 v47 hn hf hk
    obtain ⟨f, rfl⟩ := fuel hf
    obtain rfl : n = P := by simpa using hn
    refine wLoop (kLaw_nat mx _) ?_
    simp only [sy, List.length_append, Nat.reduceAdd, Nat.reduceMul, Nat.reduceSub, Nat.reduceLeDiff, Nat.reduceEqDiff, Nat.reduceLT, reduceIte, kLaw_s, Int.lt_irrefl]
    have := hk v11 (.int 9223372036854775807 (n.length : Int)) (.bool false)
    rw [show okB [] = true from rfl, Bool.and_true] at this
    exact this
  | cons c R ih =>
    intro P f g v11 v47 hn hf hk
    obtain ⟨f, rfl⟩ := fuel hf
    have hlen : n.length = P.length + (R.length + 1) := by rw [hn]; simp
    have ec : n[P.length]? = some c := by rw [hn]; simp
    obtain ⟨p, _, p2, p3⟩ := h44.idx (bytesA_get ec)
    have e1 : decide ((P.length : Int) < (n.length : Int)) = true := by rw [decide_eq_true_iff]; omega
    have e4 : wrapA 9223372036854775807 ((P.length : Int) + 1) = ((P.length + 1 : Nat) : Int) := by rw [wrapA_i64 (by omega) (by omega)]; simp
    have hok : okB (c :: R) = (decide (32 < c) && decide (c < 127) && okB R) := rfl
    have key := fun g v11 v47 => ih (P ++ [c]) (f + R.length + 2) g v11 v47 (by rw [hn]; simp) (by omega)
    rw [show (P ++ [c]).length = P.length + 1 by simp] at key
    refine wLoop (kLaw_nat mx _) ?_
    cases g with
    | false =>
      simp only [sy, List.length_append, Nat.reduceAdd, Nat.reduceMul, Nat.reduceSub, Nat.reduceLeDiff, Nat.reduceEqDiff, Nat.reduceLT, reduceIte, kLaw_s, e1, p2, p3, e4]
      refine key false _ _ fun v11 v46 v47 => ?_
      have := hk v11 v46 v47
      rw [Bool.false_and] at this ⊢
      exact this
    | true =>
      by_cases h1 : 32 < c
      · have g1 : decide ((32 : Int) < (c : Int)) = true := by rw [decide_eq_true_iff]; omega
        by_cases h2 : c < 127
        · have g2 : decide ((c : Int) < 127) = true := by rw [decide_eq_true_iff]; omega
          simp only [sy, List.length_append, Nat.reduceAdd, Nat.reduceMul, Nat.reduceSub, Nat.reduceLeDiff, Nat.reduceEqDiff, Nat.reduceLT, reduceIte, kLaw_s, e1, p2, p3, e4, g1, g2]
          refine key true _ _ fun v11 v46 v47 => ?_
          have := hk v11 v46 v47
          rw [hok, decide_eq_true h1, decide_eq_true h2, Bool.true_and, Bool.true_and, Bool.true_and] at this
          rw [Bool.true_and]; exact this
        · have g2 : decide ((c : Int) < 127) = false := by rw [decide_eq_false_iff_not]; omega
          simp only [sy, List.length_append, Nat.reduceAdd, Nat.reduceMul, Nat.reduceSub, Nat.reduceLeDiff, Nat.reduceEqDiff, Nat.reduceLT, reduceIte, kLaw_s, e1, p2, p3, e4, g1, g2]
          refine key false _ _ fun v11 v46 v47 => ?_
          have := hk v11 v46 v47
          rw [hok, decide_eq_false h2, Bool.and_false, Bool.false_and, Bool.and_false] at this
          rw [Bool.false_and]; exact this
      · have g1 : decide ((32 : Int) < (c : Int)) = false := by rw [decide_eq_false_iff_not]; omega
        simp only [sy, List.length_append, Nat.reduceAdd, Nat.reduceMul, Nat.reduceSub, Nat.reduceLeDiff, Nat.reduceEqDiff, Nat.reduceLT, reduceIte, kLaw_s, e1, p2, p3, e4, g1]
        refine key false _ _ fun v11 v46 v47 => ?_
        have := hk v11 v46 v47
        rw [hok, decide_eq_false h1, Bool.false_and, Bool.false_and, Bool.and_false] at this
        rw [Bool.false_and]; exact this
theorem law9 (R : ShS kd h bs (putL L n)) (hfew : L.length ≤ 64) (o : Ow1 h (fun b => kd b = 4) v6 (strsA L)) (f : Nat) (hf : 100 ≤ f)
    (k : ∀ kd' h' v6 v68 v69 v73 v74 v79 v80 v85, ShS kd' h' bs (putL L n) → Ow1 h' (fun b => kd' b = 4) v6 (strsA (putL L n)) → Q (κn ⟨kLaw_T v0 v1 v4 v5 v6 v7 (.str n) (.bool (nameOk n)) v11 (.int 9223372036854775807 (putE L n : Int)) v14 v22 v25 v26 v27 v28 v29 v35 v44 v45 v46 v47 v68 v69 v73 v74 v79 v80 v85 v105 v127 v153, h'⟩)) :
    Q (kc (CL mx) (rl (CL mx) f).run lp (kLaw_9 mx) ⟨kLaw_T v0 v1 v4 v5 v6 v7 (.str n) (.bool (nameOk n)) v11 (.int 9223372036854775807 (putE L n : Int)) v14 v22 v25 v26 v27 v28 v29 v35 v44 v45 v46 v47 v68 v69 v73 v74 v79 v80 v85 v105 v127 v153, h⟩ κn κx) := by
  cases hok : nameOk n with
  | false =>
    have e : putE L n = 5 := by unfold putE; rw [if_pos hok]
    have eL : putL L n = L := by unfold putL; rw [e]; rfl
    rw [hok, e, eL] at k
    rw [e]
    rw [eL] at R
    have g : decide (((5 : Nat) : Int) ≠ 5) = false := by decide
    simp only [sy, List.length_append, Nat.reduceAdd, Nat.reduceMul, Nat.reduceSub, Nat.reduceLeDiff, Nat.reduceEqDiff, Nat.reduceLT, reduceIte, kLaw_s, g]
    exact k kd h v6 _ _ _ _ _ _ _ R o
  | true =>
    rw [hok] at k
    have l0 := fun h (κ : Ka) => o.at.lenS h κ
    rw [strsA_len] at l0
    simp only [sy, Nat.reduceAdd, Nat.reduceMul, Nat.reduceSub, Nat.reduceLeDiff, Nat.reduceEqDiff, Nat.reduceLT, reduceIte, kLaw_s]
    refine wCall (con_gives (n := n) o.at (by omega) f (by omega)).call ?_
    rintro r h' ⟨rfl, rfl⟩
    by_cases hin : n ∈ L
    · have e : putE L n = 4 := by unfold putE; rw [if_neg (by simp [hok]), if_pos hin]
      have eL : putL L n = L := by unfold putL; rw [e]; rfl
      rw [e, eL] at k
      rw [e]
      rw [eL] at R
      have g : decide (((4 : Nat) : Int) ≠ 4) = false := by decide
      simp only [sy, List.length_append, Nat.reduceAdd, Nat.reduceMul, Nat.reduceSub, Nat.reduceLeDiff, Nat.reduceEqDiff, Nat.reduceLT, reduceIte, kLaw_s, decide_eq_true hin, g]
      exact k kd h' v6 _ _ _ _ _ _ _ R o
    · by_cases h64 : L.length = 64
      · have e : putE L n = 2 := by unfold putE; rw [if_neg (by simp [hok]), if_neg hin, if_pos h64]
        have eL : putL L n = L := by unfold putL; rw [e]; rfl
        rw [e, eL] at k
        rw [e]
        rw [eL] at R
        have g : decide (((2 : Nat) : Int) ≠ 2) = false := by decide
        have g1 : decide ((L.length : Int) = 64) = true := by rw [decide_eq_true_iff]; omega
        simp only [sy, List.length_append, Nat.reduceAdd, Nat.reduceMul, Nat.reduceSub, Nat.reduceLeDiff, Nat.reduceEqDiff, Nat.reduceLT, reduceIte, kLaw_s, decide_eq_false hin, l0, g1, g]
        exact k kd h' v6 _ _ _ _ _ _ _ R o
      · have e : putE L n = 0 := by unfold putE; rw [if_neg (by simp [hok]), if_neg hin, if_neg h64]
        have eL : putL L n = L ++ [n] := by unfold putL; rw [e]; rfl
        rw [e, eL] at k
        rw [e]
        rw [eL] at R
        have g : decide (((0 : Nat) : Int) ≠ 0) = false := by decide
        have g1 : decide ((L.length : Int) = 64) = false := by rw [decide_eq_false_iff_not]; omega
        have o2 : Ow1 (h' ++ [some (Blk.cells [AV.str n] 0)]) (fun b => kd b = 4 ∧ b < h'.length) v6 (strsA L) := o.mono fun b hb hs => ⟨⟨hs, hb⟩, hget_old hb _⟩
        obtain ⟨v', h4, a1, a2, a3, a4⟩ := o2.app (9 + 1) (by_ := 16) (by decide) (x := .slo h'.length 0 1 1 1 true) (c := .str n) (.inr (.inr ⟨_, 0, 1, [AV.str n], 0, true, rfl, hget_top _ _, rfl, by simp⟩)) rfl (by rw [strsA_len]; omega)
        simp only [sy, List.length_append, Nat.reduceAdd, Nat.reduceMul, Nat.reduceSub, Nat.reduceLeDiff, Nat.reduceEqDiff, Nat.reduceLT, reduceIte, kLaw_s, decide_eq_false hin, l0, g1, bldS_str, a1, g]
        have hl : (h' ++ [some (Blk.cells [AV.str n] 0)]).length = h'.length + 1 := by simp
        rw [hl] at a2 a3 a4
        let kd2 : Nat → Nat := fun i => if i < h'.length then kd i else if i = h'.length + 1 then 4 else 0
        have k2l : ∀ i, i < h'.length → kd2 i = kd i := fun i hi => if_pos hi
        refine k kd2 h4 v' _ _ _ _ _ _ _ (R.mono fun i hi _ hk => ⟨k2l i hi, ?_⟩) ?_
        · rw [a4 i (fun c => hk c.1) (by omega), hget_old hi]
        · rw [strsA_app]
          refine a2.mono fun b hb hs => ⟨?_, rfl⟩
          rcases hs with ⟨hs, c⟩ | rfl
          · rw [k2l b c]; exact hs
          · show (if h'.length + 1 < h'.length then _ else if h'.length + 1 = h'.length + 1 then 4 else 0) = 4
            rw [if_neg (by omega), if_pos rfl]
theorem ints_get {D : List Int} {i : Nat} {d : Int} (h : D[i]? = some d) : (intsA D)[i]? = some (.int 9223372036854775807 d) := by unfold intsA; rw [List.getElem?_map, h]; rfl
theorem ints_len (D : List Int) : (intsA D).length = D.length := by simp [intsA]
theorem PureS.ix {v c : AV} {cs : List AV} (p : PureS v cs) {i : Nat} (hc : cs[i]? = some c) : ∃ q, (∀ (k : Nat) (h : AH) (κ : Ka), idxS 1 v (.int k (i : Int)) h κ = κ q h) ∧ ∀ (h : AH) (κ : Ka), load1 q h κ = κ c h := by
  rcases p with ⟨rfl, _⟩ | rfl
  · simp at hc
  · refine ⟨.ptp cs i, fun k h κ => ?_, fun h κ => ?_⟩
    · rw [idxS_p, bq_dec_pos (List.getElem?_eq_some_iff.1 hc).1, Nat.mul_one]
    · rw [load1_p, hc]; rfl
theorem law11 {D : List Int} (hD : PureS v1 (intsA D)) {i : Nat} (R : ShS kd h bs L) (o : Ow1 h (fun b => kd b = 4) v6 (strsA L)) (f : Nat) (hf : 100 ≤ f)
    (k : ∀ kd' h' v6 L v105 v127, ShS kd' h' bs L → Ow1 h' (fun b => kd' b = 4) v6 (strsA L) → Q (κn ⟨kLaw_T v0 v1 v4 (.pto bs 0) v6 (.int 9223372036854775807 (i : Int)) v8 v9 v11 v12 v14 v22 v25 v26 v27 v28 v29 v35 v44 v45 v46 v47 v68 v69 v73 v74 v79 v80 v85 v105 v127 v153, h'⟩)) :
    Q (kc (CL mx) (rl (CL mx) f).run lp (kLaw_11 mx) ⟨kLaw_T v0 v1 v4 (.pto bs 0) v6 (.int 9223372036854775807 (i : Int)) v8 v9 v11 v12 v14 v22 v25 v26 v27 v28 v29 v35 v44 v45 v46 v47 v68 v69 v73 v74 v79 v80 v85 v105 v127 v153, h⟩ κn κx) := by
  have hfew := R.few
  have l1 := fun h (κ : Ka) => hD.len h κ
  rw [ints_len] at l1
  have l6 := fun (κ : Ka) => o.at.lenS h κ
  rw [strsA_len] at l6
  by_cases hi : i < D.length
  · have g1 : decide ((i : Int) < (D.length : Int)) = true := by rw [decide_eq_true_iff]; omega
    obtain ⟨d, ed⟩ : ∃ d, D[i]? = some d := ⟨_, List.getElem?_eq_getElem hi⟩
    obtain ⟨p, p2, p3⟩ := hD.ix (ints_get ed)
    by_cases h0 : 0 ≤ d
    · have g2 : decide (0 ≤ d) = true := decide_eq_true h0
      by_cases hd : d < (L.length : Int)
      · have g3 : decide (d < (L.length : Int)) = true := decide_eq_true hd
        obtain ⟨j, rfl⟩ := Int.eq_ofNat_of_zero_le h0
        have hj : j < L.length := by omega
        obtain ⟨x, ex⟩ : ∃ x, L[j]? = some x := ⟨_, List.getElem?_eq_getElem hj⟩
        obtain ⟨A, B, hL, hA⟩ := row_split ex
        subst hA
        obtain ⟨q, q2, _, q3, _⟩ := o.set (strsA_get ex)
        have hlen : A.length + (B.length + 1) ≤ 64 := by rw [hL] at hfew; simpa using hfew
        simp only [sy, List.length_append, Nat.reduceAdd, Nat.reduceMul, Nat.reduceSub, Nat.reduceLeDiff, Nat.reduceEqDiff, Nat.reduceLT, reduceIte, kLaw_s, l1, g1, p2, p3, g2, l6, g3, q2, q3]
        refine wCall (dro_gives (n := x) (A := A) (B := B) (by rw [← hL]; exact R) f (by omega)).call ?_
        rintro r h1 ⟨rfl, kd1, R1, N1⟩
        have o1 : Ow1 h1 (fun b => kd1 b = 4) v6 (strsA L) := o.mono fun b hb hs => by
          have := N1.2 b hb (.inr hs)
          exact ⟨by rw [this.1]; exact hs, this.2⟩
        obtain ⟨q', q2', _, q3', _⟩ := o1.set (strsA_get ex)
        have g4 : decide ((0 : Int) ≠ 0) = false := by decide
        simp only [sy, List.length_append, Nat.reduceAdd, Nat.reduceMul, Nat.reduceSub, Nat.reduceLeDiff, Nat.reduceEqDiff, Nat.reduceLT, reduceIte, kLaw_s, g4, p2, p3, q2', q3']
        have hnd := R.nd
        rw [hL] at hnd
        have hx : x ∉ A ++ B := by
          have h1' := List.nodup_append.1 hnd
          intro c
          rcases List.mem_append.1 c with c | c
          · exact h1'.2.2 x c x (by simp) rfl
          · exact (List.nodup_cons.1 h1'.2.1).1 c
        obtain ⟨f, rfl⟩ := fuel hf
        refine wCall (dro_miss (n := x) R1 hx (f + 99)).call ?_
        rintro r h2 ⟨rfl, kd2, R2, N2⟩
        have o2 : Ow1 h2 (fun b => kd2 b = 4 ∧ b < h2.length) v6 (strsA L) := o1.mono fun b hb hs => by
          have := N2.2 b hb (.inr hs)
          exact ⟨⟨by rw [this.1]; exact hs, Nat.lt_of_lt_of_le hb N2.1⟩, this.2⟩
        have g5 : decide ((3 : Int) ≠ 3) = false := by decide
        have w1 : wrapA 9223372036854775807 ((A.length : Int) + 1) = ((A.length + 1 : Nat) : Int) := by rw [wrapA_i64 (by omega) (by omega)]; simp
        simp only [sy, List.length_append, Nat.reduceAdd, Nat.reduceMul, Nat.reduceSub, Nat.reduceLeDiff, Nat.reduceEqDiff, Nat.reduceLT, reduceIte, kLaw_s, g5, p2, p3, w1]
        rw [hL] at o2
        refine wCall (del_gives (x := x) (by omega) o2 (f + 99)).call ?_
        rintro r h3 ⟨o3, n3, f3⟩
        have hb : Nat.ble (flen h2) (flen h3) = true := by rw [nble, flen_eq, flen_eq, n3]; simp
        simp only [hb, bq_true]
        exact k kd2 h3 r (A ++ B) _ _ (R2.mono fun i hi _ hk => ⟨rfl, f3 i fun c => hk c.1⟩) (o3.mono fun b hb hs => ⟨hs.1, rfl⟩)
      · have g3 : decide (d < (L.length : Int)) = false := decide_eq_false hd
        simp only [sy, List.length_append, Nat.reduceAdd, Nat.reduceMul, Nat.reduceSub, Nat.reduceLeDiff, Nat.reduceEqDiff, Nat.reduceLT, reduceIte, kLaw_s, l1, g1, p2, p3, g2, l6, g3]
        exact k kd h v6 L _ _ R o
    · have g2 : decide (0 ≤ d) = false := decide_eq_false h0
      simp only [sy, List.length_append, Nat.reduceAdd, Nat.reduceMul, Nat.reduceSub, Nat.reduceLeDiff, Nat.reduceEqDiff, Nat.reduceLT, reduceIte, kLaw_s, l1, g1, p2, p3, g2]
      exact k kd h v6 L _ _ R o
  · have g1 : decide ((i : Int) < (D.length : Int)) = false := by rw [decide_eq_false_iff_not]; omega
    simp only [sy, List.length_append, Nat.reduceAdd, Nat.reduceMul, Nat.reduceSub, Nat.reduceLeDiff, Nat.reduceEqDiff, Nat.reduceLT, reduceIte, kLaw_s, l1, g1]
    exact k kd h v6 L _ _ R o
theorem neqA_bool (a b : Bool) (h : AH) (κ : Ka) : neqA ⟨.bool, 1, 1, [.bool false], false, true⟩ (.bool a) (.bool b) h κ = κ (.bool (!beqB a b)) h := (rfl)
theorem law12 (R : ShS kd h bs L) (o : Ow1 h (fun b => kd b = 4) v6 (strsA L)) (f : Nat) (hf : 100 ≤ f)
    (k : ∀ kd' h' v153, ShS kd' h' bs L → Ow1 h' (fun b => kd' b = 4) v6 (strsA L) → Q (κn ⟨kLaw_T v0 v1 v4 (.pto bs 0) v6 v7 (.str n) v9 v11 v12 v14 v22 v25 v26 v27 v28 v29 v35 v44 v45 v46 v47 v68 v69 v73 v74 v79 v80 v85 v105 v127 v153, h'⟩)) :
    Q (kc (CL mx) (rl (CL mx) f).run lp (kLaw_12 mx) ⟨kLaw_T v0 v1 v4 (.pto bs 0) v6 v7 (.str n) v9 v11 v12 v14 v22 v25 v26 v27 v28 v29 v35 v44 v45 v46 v47 v68 v69 v73 v74 v79 v80 v85 v105 v127 v153, h⟩ κn κx) := by
  have hfew := R.few
  obtain ⟨f, rfl⟩ := fuel hf
  simp only [sy, Nat.reduceAdd, Nat.reduceMul, Nat.reduceSub, Nat.reduceLeDiff, Nat.reduceEqDiff, Nat.reduceLT, reduceIte, kLaw_s]
  refine wCall (nms_gives R (f + 98)).call ?_
  rintro r h1 ⟨o1, fr⟩
  have R1 := R.grow fr
  have o2 : Ow1 h1 (fun b => extL kd h.length 0 b = 4) v6 (strsA L) := o.mono fun b hb hs => ⟨by rw [extL_lt hb]; exact hs, fr.2 b hb⟩
  refine wCall (equ_gives o1.at o2.at (by omega) (f + 100) (by omega)).call ?_
  rintro r h2 ⟨rfl, rfl⟩
  simp only [sy, Nat.reduceAdd, Nat.reduceMul, Nat.reduceSub, Nat.reduceLeDiff, Nat.reduceEqDiff, Nat.reduceLT, reduceIte, kLaw_s, decide_true]
  refine wCall (get_gives R1 n (f + 99)).call ?_
  rintro r h3 ⟨rfl, hr⟩
  rcases hr with ⟨hin, b, q, rfl⟩ | ⟨hin, rfl⟩
  · have np := fun (h : AH) (κ : Ka) => neq_pto b q h κ
    unfold eiS at np
    simp only [sy, Nat.reduceAdd, Nat.reduceMul, Nat.reduceSub, Nat.reduceLeDiff, Nat.reduceEqDiff, Nat.reduceLT, reduceIte, kLaw_s, np]
    refine wCall (con_gives (n := n) o2.at (by omega) (f + 100) (by omega)).call ?_
    rintro r h4 ⟨rfl, rfl⟩
    simp only [sy, Nat.reduceAdd, Nat.reduceMul, Nat.reduceSub, Nat.reduceLeDiff, Nat.reduceEqDiff, Nat.reduceLT, reduceIte, kLaw_s, neqA_bool, decide_eq_true hin]
    exact k _ _ _ R1 o2
  · have np := fun (h : AH) (κ : Ka) => neq_nil h κ
    unfold eiS at np
    simp only [sy, Nat.reduceAdd, Nat.reduceMul, Nat.reduceSub, Nat.reduceLeDiff, Nat.reduceEqDiff, Nat.reduceLT, reduceIte, kLaw_s, np]
    refine wCall (con_gives (n := n) o2.at (by omega) (f + 100) (by omega)).call ?_
    rintro r h4 ⟨rfl, rfl⟩
    simp only [sy, Nat.reduceAdd, Nat.reduceMul, Nat.reduceSub, Nat.reduceLeDiff, Nat.reduceEqDiff, Nat.reduceLT, reduceIte, kLaw_s, neqA_bool, decide_eq_false hin]
    exact k _ _ _ R1 o2
theorem law_loop3 {N : List (List Nat)} {D : List Int} (hN : PureS v0 (strsA N)) (hD : PureS v1 (intsA D)) (hl : N.length ≤ 150) (v14 v22 v25 : AV) : ∀ (R P : List (List Nat)) (f : Nat) (kd : Nat → Nat) (h : AH) (L : List (List Nat)) (v4 v6 v7 v8 v9 v11 v12 v29 v35 v44 v45 v46 v47 v68 v69 v73 v74 v79 v80 v85 v105 v127 v153 : AV), N = P ++ R → R.length + 320 ≤ f → ShS kd h bs L → Ow1 h (fun b => kd b = 4) v6 (strsA L) →
    (∀ h v4 v6 v7 v8 v9 v11 v12 v28 v29 v35 v44 v45 v46 v47 v68 v69 v73 v74 v79 v80 v85 v105 v127 v153, Q (κx (.exit 0) ⟨kLaw_T v0 v1 v4 (.pto bs 0) v6 v7 v8 v9 v11 v12 v14 v22 v25 v0 (.int 9223372036854775807 (N.length : Int)) v28 v29 v35 v44 v45 v46 v47 v68 v69 v73 v74 v79 v80 v85 v105 v127 v153, h⟩)) →
    (∀ h v6 v7 v8 v9 v11 v12 v28 v29 v35 v44 v45 v46 v47 v68 v69 v73 v74 v79 v80 v85 v105 v127 v153, Q (κx .ret ⟨kLaw_T v0 v1 (.bool true) (.pto bs 0) v6 v7 v8 v9 v11 v12 v14 v22 v25 v0 (.int 9223372036854775807 (N.length : Int)) v28 v29 v35 v44 v45 v46 v47 v68 v69 v73 v74 v79 v80 v85 v105 v127 v153, h⟩)) →
    Q (kcR κn κx ((rl (CL mx) f).lp (kLaw_3 mx) ⟨kLaw_T v0 v1 v4 (.pto bs 0) v6 v7 v8 v9 v11 v12 v14 v22 v25 v0 (.int 9223372036854775807 (N.length : Int)) (.int 9223372036854775807 (P.length : Int)) v29 v35 v44 v45 v46 v47 v68 v69 v73 v74 v79 v80 v85 v105 v127 v153, h⟩)) := by
  intro R
  induction R with
  | nil =>
    intro P f kd h L v4 v6 v7 v8 v9 v11 v12 v29 v35 v44 v45 v46 v47 v68 v69 v73 v74 v79 v80 v85 v105 v127 v153 hP hf hR ho hk hr
    obtain ⟨f, rfl⟩ := fuel hf
    obtain rfl : N = P := by simpa using hP
    refine wLoop (kLaw_nat mx _) ?_
    simp only [sy, List.length_append, Nat.reduceAdd, Nat.reduceMul, Nat.reduceSub, Nat.reduceLeDiff, Nat.reduceEqDiff, Nat.reduceLT, reduceIte, kLaw_3_eq, Int.lt_irrefl]
    exact hk _ _ _ _ _ _ _ _ _ _ _ _ _ _ _ _ _ _ _ _ _ _ _ _ _
  | cons n R ih =>
    intro P f kd h L v4 v6 v7 v8 v9 v11 v12 v29 v35 v44 v45 v46 v47 v68 v69 v73 v74 v79 v80 v85 v105 v127 v153 hP hf hR ho hk hr
    obtain ⟨f, rfl⟩ : ∃ q, f = q + 1 := ⟨f - 1, by have : R.length + 1 + 320 ≤ f := hf; omega⟩
    have hf : R.length + 320 ≤ f := by have : R.length + 1 + 320 ≤ f + 1 := hf; omega
    have hlen : N.length = P.length + (R.length + 1) := by rw [hP]; simp
    have en : N[P.length]? = some n := by rw [hP]; simp
    obtain ⟨p, p2, p3⟩ := hN.ix (strsA_get en)
    have e1 : decide ((P.length : Int) < (N.length : Int)) = true := by rw [decide_eq_true_iff]; omega
    have e4 : wrapA 9223372036854775807 ((P.length : Int) + 1) = ((P.length + 1 : Nat) : Int) := by rw [wrapA_i64 (by omega) (by omega)]; simp
    have key := fun kd h L v4 v6 v7 v8 v9 v11 v12 v29 v35 v44 v45 v46 v47 v68 v69 v73 v74 v79 v80 v85 v105 v127 v153 hR ho => ih (P ++ [n]) f kd h L v4 v6 v7 v8 v9 v11 v12 v29 v35 v44 v45 v46 v47 v68 v69 v73 v74 v79 v80 v85 v105 v127 v153 (by rw [hP]; simp) (by omega) hR ho hk hr
    rw [show (P ++ [n]).length = P.length + 1 by simp] at key
    refine wLoop (kLaw_nat mx _) ?_
    by_cases h200 : 200 < n.length
    · have g2 : decide ((200 : Int) < (n.length : Int)) = true := by rw [decide_eq_true_iff]; omega
      simp only [sy, List.length_append, Nat.reduceAdd, Nat.reduceMul, Nat.reduceSub, Nat.reduceLeDiff, Nat.reduceEqDiff, Nat.reduceLT, reduceIte, kLaw_3_eq, kLaw_4_eq, e1, p2, p3, g2]
      exact hr _ _ _ _ _ _ _ _ _ _ _ _ _ _ _ _ _ _ _ _ _ _ _ _
    have g2 : decide ((200 : Int) < (n.length : Int)) = false := by rw [decide_eq_false_iff_not]; omega
    have l1 := fun κ => (bytes_new (h := h) n).lenS (h ++ [some (.cells (bytesA n) 0)]) κ
    rw [bytesA_len] at l1
    have fr : Fr h.length h (h ++ [some (.cells (bytesA n) 0)]) := Fr.push (Nat.le_refl _) _
    have hR1 := hR.grow fr
    have ho1 : Ow1 (h ++ [some (.cells (bytesA n) 0)]) (fun b => extL kd h.length 0 b = 4) v6 (strsA L) := ho.mono fun b hb hs => ⟨by rw [extL_lt hb]; exact hs, fr.2 b hb⟩
    have go : ∀ g0 : Bool, g0 = (decide (n ≠ []) && decide (n.length ≤ 32)) → Q (kcR (fun s => kc (CL mx) (rl (CL mx) f).run (rl (CL mx) f).lp (kLaw_7 mx) s (fun s => kc (CL mx) (rl (CL mx) f).run (rl (CL mx) f).lp (kLaw_5 mx) s (fun s => kcR κn κx ((rl (CL mx) f).lp (kLaw_3 mx) s)) κx) (kcO 1 (fun s => kc (CL mx) (rl (CL mx) f).run (rl (CL mx) f).lp (kLaw_5 mx) s (fun s => kcR κn κx ((rl (CL mx) f).lp (kLaw_3 mx) s)) κx) κx))
        (kcO 2 (fun s => kc (CL mx) (rl (CL mx) f).run (rl (CL mx) f).lp (kLaw_7 mx) s (fun s => kc (CL mx) (rl (CL mx) f).run (rl (CL mx) f).lp (kLaw_5 mx) s (fun s => kcR κn κx ((rl (CL mx) f).lp (kLaw_3 mx) s)) κx) (kcO 1 (fun s => kc (CL mx) (rl (CL mx) f).run (rl (CL mx) f).lp (kLaw_5 mx) s (fun s => kcR κn κx ((rl (CL mx) f).lp (kLaw_3 mx) s)) κx) κx)) (kcO 1 (fun s => kc (CL mx) (rl (CL mx) f).run (rl (CL mx) f).lp (kLaw_5 mx) s (fun s => kcR κn κx ((rl (CL mx) f).lp (kLaw_3 mx) s)) κx) κx))
        ((rl (CL mx) f).lp (kLaw_8 mx) ⟨kLaw_T v0 v1 v4 (.pto bs 0) v6 (.int 9223372036854775807 (P.length : Int)) (.str n) (.bool g0) v11 v12 v14 v22 v25 v0 (.int 9223372036854775807 (N.length : Int)) (.int 9223372036854775807 (P.length : Int)) (.bool true) (.bool false) (.slo h.length 0 n.length n.length 1 false) (.int 9223372036854775807 (n.length : Int)) (.int 9223372036854775807 0) v47 v68 v69 v73 v74 v79 v80 v85 v105 v127 v153, h ++ [some (.cells (bytesA n) 0)]⟩)) := by
      intro g0 hg0
      refine law_loop8 (bytes_new (h := h) n) (by omega) n [] _ g0 _ _ (by simp) (by omega) fun v11 v46 v47 => ?_
      have hok : (g0 && okB n) = nameOk n := by rw [hg0]; rfl
      rw [hok]
      simp only [sy, List.length_append, Nat.reduceAdd, Nat.reduceMul, Nat.reduceSub, Nat.reduceLeDiff, Nat.reduceEqDiff, Nat.reduceLT, reduceIte, kLaw_7_eq]
      refine wCall (txt_gives (n := n) hR1 (by omega) _ _ (by omega)).call ?_
      rintro r h2 ⟨rfl, kd2, hR2, N2⟩
      have ho2 : Ow1 h2 (fun b => kd2 b = 4) v6 (strsA L) := ho1.mono fun b hb hs => by
        have := N2.2 b hb (.inr hs)
        exact ⟨by rw [this.1]; exact hs, this.2⟩
      refine law9 hR2 hR.few ho2 _ (by omega) fun kd3 h3 v6 v68 v69 v73 v74 v79 v80 v85 hR3 ho3 => ?_
      simp only [sy, List.length_append, Nat.reduceAdd, Nat.reduceMul, Nat.reduceSub, Nat.reduceLeDiff, Nat.reduceEqDiff, Nat.reduceLT, reduceIte, kLaw_10_eq]
      refine law11 hD hR3 ho3 _ (by omega) fun kd4 h4 v6 L4 v105 v127 hR4 ho4 => ?_
      refine law12 hR4 ho4 _ (by omega) fun kd5 h5 v153 hR5 ho5 => ?_
      simp only [sy, List.length_append, Nat.reduceAdd, Nat.reduceMul, Nat.reduceSub, Nat.reduceLeDiff, Nat.reduceEqDiff, Nat.reduceLT, reduceIte, kLaw_5_eq, e4]
      exact key kd5 h5 L4 _ _ _ _ _ _ _ _ _ _ _ _ _ _ _ _ _ _ _ _ _ _ _ hR5 ho5
    by_cases h0 : n = []
    · have := go false (by rw [h0]; rfl)
      subst h0
      simp only [sy, List.length_append, Nat.reduceAdd, Nat.reduceMul, Nat.reduceSub, Nat.reduceLeDiff, Nat.reduceEqDiff, Nat.reduceLT, reduceIte, kLaw_3_eq, kLaw_4_eq, kLaw_6_eq, e1, p2, p3, g2, neS_nil, strBytes_eq, l1, ne_eq, not_true_eq_false, decide_false]
      exact this
    · have := go (decide (n.length ≤ 32)) (by simp [h0])
      have e5 : decide ((n.length : Int) ≤ 32) = decide (n.length ≤ 32) := by
        by_cases c : n.length ≤ 32
        · rw [decide_eq_true c, decide_eq_true_iff]; omega
        · rw [decide_eq_false c, decide_eq_false_iff_not]; omega
      simp only [sy, List.length_append, Nat.reduceAdd, Nat.reduceMul, Nat.reduceSub, Nat.reduceLeDiff, Nat.reduceEqDiff, Nat.reduceLT, reduceIte, kLaw_3_eq, kLaw_4_eq, kLaw_6_eq, e1, p2, p3, g2, neS_nil, strBytes_eq, l1, ne_eq, h0, not_false_eq_true, decide_true, e5]
      exact this
end
theorem law_run {mx : Int} {v0 v1 : AV} {N : List (List Nat)} {D : List Int} (hN : PureS v0 (strsA N)) (hD : PureS v1 (intsA D)) : ∃ h', (rl (CL mx) 600).run 3 [v0, v1] [] = some (.bool true, h') := by
  have g : Gives (fun r _ => r = .bool true) ((rl (CL mx) 600).run 3 [v0, v1] []) := by
    refine Gives.runs (n := 599) (kLaw_run mx _ _ _ _ _) ?_
    have l0 := hN.len
    have l1 := hD.len
    rw [strsA_len] at l0
    rw [ints_len] at l1
    have hhead := fun h => callA_memo (C := CL mx) (run := (rl (CL mx) 599).run) (h := h) (f := 4) (args := []) (v := .bool true) (by kernel_rfl) (by kernel_rfl) (by kernel_rfl)
    have hnew : ∀ h : AH, Gives (fun r h' => r = .pto (h.length + 1) 0 ∧ h' = h ++ [some (.map [] [])] ++ [some (.cells [.mpo h.length, .nils] (92 + 1))]) ((rl (CL mx) 599).run 5 [] h) := by
      intro h
      refine Gives.runs (n := 598) (kNew_run mx _ _ .bot _) ?_
      simp only [kNew_0_eq]
      refine wEq (bldA_of (cs := [.mpo (flen h), .nils]) (by kernel_rfl)) ?_
      simp only [sy, List.length_append, Nat.reduceAdd, Nat.reduceMul, Nat.reduceSub, Nat.reduceLeDiff, Nat.reduceEqDiff, Nat.reduceLT, reduceIte, boxA_eq, kNew_s]
      rw [flen_eq, fapp_eq]
      refine Ends.mk ⟨?_, rfl⟩
      simp
    have eqp := fun (b o : Nat) (h : AH) (κ : Ka) => show eqlA ⟨(.pointer 92), 1, 8, [.nil], false, false⟩ (.pto b o) .nil h κ = κ (.bool false) h from rfl
    by_cases h150 : 150 < N.length
    · have g1 : decide ((150 : Int) < (N.length : Int)) = true := by rw [decide_eq_true_iff]; omega
      simp only [sy, List.length_append, Nat.reduceAdd, Nat.reduceMul, Nat.reduceSub, Nat.reduceLeDiff, Nat.reduceEqDiff, Nat.reduceLT, reduceIte, kLaw_0_eq, hhead, l0, g1]
      exact Ends.mk rfl
    have g1 : decide ((150 : Int) < (N.length : Int)) = false := by rw [decide_eq_false_iff_not]; omega
    by_cases d150 : 150 < D.length
    · have g2 : decide ((150 : Int) < (D.length : Int)) = true := by rw [decide_eq_true_iff]; omega
      simp only [sy, List.length_append, Nat.reduceAdd, Nat.reduceMul, Nat.reduceSub, Nat.reduceLeDiff, Nat.reduceEqDiff, Nat.reduceLT, reduceIte, kLaw_0_eq, hhead, l0, g1, l1, g2]
      exact Ends.mk rfl
    have g2 : decide ((150 : Int) < (D.length : Int)) = false := by rw [decide_eq_false_iff_not]; omega
    simp only [sy, List.length_append, Nat.reduceAdd, Nat.reduceMul, Nat.reduceSub, Nat.reduceLeDiff, Nat.reduceEqDiff, Nat.reduceLT, reduceIte, kLaw_0_eq, hhead, l0, g1, l1, g2]
    refine wCall (hnew _).call ?_
    rintro r h' ⟨rfl, rfl⟩
    simp only [sy, List.length_append, Nat.reduceAdd, Nat.reduceMul, Nat.reduceSub, Nat.reduceLeDiff, Nat.reduceEqDiff, Nat.reduceLT, reduceIte, kLaw_0_eq, kLaw_1_eq, eqp, l0]
    have R : ShS (fun i => if i = 1 then 1 else if i = 0 then 2 else 0) ([] ++ [some (.map [] [])] ++ [some (.cells [.mpo 0, .nils] (92 + 1))]) 1 [] :=
      ⟨rfl, ⟨0, .nils, [], _, rfl, rfl, rfl, rfl, fun v hv => by simp at hv, .inl ⟨rfl, rfl⟩⟩, List.nodup_nil, by simp⟩
    have o : Ow1 ([] ++ [some (.map [] [])] ++ [some (.cells [.mpo 0, .nils] (92 + 1))]) (fun b => (fun i => if i = 1 then 1 else if i = 0 then 2 else 0) b = 4) .nils (strsA []) := .inl ⟨rfl, rfl⟩
    have key := law_loop3 (mx := mx) (Q := Ends fun r _ => r = .bool true) (κn := fun s => kc (CL mx) (rl (CL mx) 599).run (rl (CL mx) 599).lp (kLaw_2 mx) s (kcE (CL mx) [.tmp 4]) (kcQ (CL mx) [.tmp 4])) (κx := kcO 0 (fun s => kc (CL mx) (rl (CL mx) 599).run (rl (CL mx) 599).lp (kLaw_2 mx) s (kcE (CL mx) [.tmp 4]) (kcQ (CL mx) [.tmp 4])) (kcQ (CL mx) [.tmp 4])) hN hD (by omega) (.bool false) (.bool false) (.bool false) N [] 599 _ _ [] (.bool false) .nils .bot .bot .bot .bot .bot .bot .bot .bot .bot .bot .bot .bot .bot .bot .bot .bot .bot .bot .bot .bot .bot (by simp) (by omega) R o
      (fun h v4 v6 v7 v8 v9 v11 v12 v28 v29 v35 v44 v45 v46 v47 v68 v69 v73 v74 v79 v80 v85 v105 v127 v153 => by
        simp only [sy, List.length_append, Nat.reduceAdd, Nat.reduceMul, Nat.reduceSub, Nat.reduceLeDiff, Nat.reduceEqDiff, Nat.reduceLT, reduceIte, kLaw_2_eq, kLaw_end]
        exact Ends.mk rfl)
      (fun h v6 v7 v8 v9 v11 v12 v28 v29 v35 v44 v45 v46 v47 v68 v69 v73 v74 v79 v80 v85 v105 v127 v153 => by
        simp only [sy, List.length_append, Nat.reduceAdd, Nat.reduceMul, Nat.reduceSub, Nat.reduceLeDiff, Nat.reduceEqDiff, Nat.reduceLT, reduceIte, kLaw_end]
        exact Ends.mk rfl)
    exact key
  obtain ⟨r, h', e, rfl⟩ := g
  exact ⟨h', e⟩
/-- Texts that came in; numbers. -/
theorem strs_open {n : Nat} : ∀ {len : Nat} {cs : List AV}, TyL (TyC Tryz.prog n) (List.replicate len 9) cs → ∃ L : List (List Nat), cs = strsA L ∧ L.length = len
  | 0, cs, h => ⟨[], by rw [show cs = [] from h]; rfl, rfl⟩
  | len + 1, cs, h => by
    rw [List.replicate_succ] at h
    obtain ⟨a, r, rfl, h1, h2⟩ := h
    obtain ⟨L, rfl, g2⟩ := strs_open h2
    obtain ⟨k, rfl, _⟩ := TyC.string_ Tryz.underlying9 h1
    exact ⟨k :: L, rfl, by simp [g2]⟩
theorem strs_arg {n : Nat} {a : AV} (t : TyC Tryz.prog n 22 [a]) : ∃ l : List (List Nat), PureS a (strsA l) := by
  rcases TyC.slice_ Tryz.underlying22 t with e | e | ⟨m, cs, len, e, g1, g2, g3⟩
  · cases e; exact ⟨[], .inl ⟨rfl, .inl rfl⟩⟩
  · cases e; exact ⟨[], .inl ⟨rfl, .inr rfl⟩⟩
  · cases e
    obtain ⟨L, rfl, q2⟩ := strs_open g3
    exact ⟨L, .inr (by rw [strsA_len, q2])⟩
theorem ints_open {n : Nat} : ∀ {len : Nat} {cs : List AV}, TyL (TyC Tryz.prog n) (List.replicate len 3) cs → ∃ L : List Int, cs = intsA L ∧ L.length = len
  | 0, cs, h => ⟨[], by rw [show cs = [] from h]; rfl, rfl⟩
  | len + 1, cs, h => by
    rw [List.replicate_succ] at h
    obtain ⟨a, r, rfl, h1, h2⟩ := h
    obtain ⟨L, rfl, g2⟩ := ints_open h2
    obtain ⟨k, rfl, _⟩ := TyC.int_ Tryz.underlying3 h1
    exact ⟨k :: L, rfl, by simp [g2]⟩
theorem ints_arg {n : Nat} {a : AV} (t : TyC Tryz.prog n 23 [a]) : ∃ l : List Int, PureS a (intsA l) := by
  rcases TyC.slice_ Tryz.underlying23 t with e | e | ⟨m, cs, len, e, g1, g2, g3⟩
  · cases e; exact ⟨[], .inl ⟨rfl, .inl rfl⟩⟩
  · cases e; exact ⟨[], .inl ⟨rfl, .inr rfl⟩⟩
  · cases e
    obtain ⟨L, rfl, q2⟩ := ints_open g3
    exact ⟨L, .inr (by rw [ints_len, q2])⟩
set_option maxRecDepth 100000 in
theorem ShelfNames_calls {W : World} {args : Array Value} {a0 a1 : AV} {n0 n1 : Nat} {mx : Int} (I : Inv (C0 mx) (· < W.heap.size) W ρ0 []) (hv : VL (· < W.heap.size) W [a0, a1] ρ0 args.toList)
    (t0 : TyV Tryz.prog n0 22 a0) (t1 : TyV Tryz.prog n1 23 a1) : Calls Tryz.prog 3 args W fun e w' => e = .returned (.bool true) ∧ RowKit.Below W.heap.size W w' := by
  obtain ⟨N, h0⟩ := strs_arg (n := n0) (a := a0) (by unfold TyV at t0; rw [Tryz.underlying22] at t0; exact t0)
  obtain ⟨D, h1⟩ := ints_arg (n := n1) (a := a1) (by unfold TyV at t1; rw [Tryz.underlying23] at t1; exact t1)
  obtain ⟨h', e⟩ := law_run (mx := mx) h0 h1
  exact calls_of_run (runN_ok cl_ok 600 _ _ _ _ _ e) ((I.of_gl (told_gl _ _)).of_gl (ownd_gl _ _)) hv
end Go.Proofs.YtdkioifmieamoaaGreatDoor
