/- A shelf's items, by their names: the runs. The functions' code is printed by a program. -/
import Derived.Test.YtdkioifmieamoaaGreatDoorSn
namespace Go.Proofs.YtdkioifmieamoaaGreatDoor
set_option linter.unusedSimpArgs false
set_option linter.unusedVariables false
set_option linter.unnecessarySimpa false
set_option linter.defProp false
noncomputable section
/- guipure/shelf.New -/
def kNew_T (v0 : AV) : Tm := (.lf 0 v0)
def kNew_0 (mx : Int) : K := kAt [] (kOf (CL mx) 5)
section
set_option maxRecDepth 100000
variable (mx : Int) (run : Run) (lp : Lp) (κn : Kt) (κx : Ex → Kt) (h : AH) (v0 : AV)
theorem kNew_0_eq : kc (CL mx) run lp (kNew_0 mx) ⟨kNew_T v0, h⟩ κn κx = (fun a0 h => bldA (placeOf (CL mx) [(0, 90), (1, 22)]) [.nilm, .nils] [(0, a0)] h (fun a1 h => boxA 93 a1 h (fun a2 h => κx .ret ⟨kNew_T a2, h⟩))) (.mpo (flen h)) (fapp h [some (.map [] [])]) := by kernel_rfl
theorem kNew_end : kcE (CL mx) [.tmp 0] ⟨kNew_T v0, h⟩ = some (.vh v0 h) := (kcE_eq _ _ _).trans (by kernel_rfl)
theorem kNew_fk : fkAt (CL mx) 5 = some ⟨kNew_0 mx, [0], 4, [.tmp 0]⟩ := by kernel_rfl
end
theorem kNew_run (mx : Int) (run : Run) (lp : Lp) (_u : AV) (h : AH) : runF (CL mx) run lp 5 [] h = vhO (kc (CL mx) run lp (kNew_0 mx) ⟨kNew_T .bot, h⟩ (kcE (CL mx) [.tmp 0]) (kcQ (CL mx) [.tmp 0])) := (run_kc (by kernel_rfl) (kNew_fk mx) (by kernel_rfl)).trans (by kernel_rfl)
theorem kNew_nat (mx : Int) (p : List Nat) : NatK (CL mx) (kAt p (kOf (CL mx) 5)) := kAt_nat p (kOf_nat (CL mx) 5)
def kNew_s := And.intro @kNew_0_eq (@kNew_end)
/- (*guipure/shelf.Shelf).Text -/
def kTxt_T (v0 v1 v2 v6 : AV) : Tm := (.nd 2 (.nd 1 (.lf 0 v0) (.lf 1 v1)) (.nd 6 (.lf 2 v2) (.lf 6 v6)))
def kTxt_0 (mx : Int) : K := kAt [] (kOf (CL mx) 6)
section
set_option maxRecDepth 100000
variable (mx : Int) (run : Run) (lp : Lp) (κn : Kt) (κx : Ex → Kt) (h : AH) (v0 v1 v2 v6 : AV)
theorem kTxt_0_eq : kc (CL mx) run lp (kTxt_0 mx) ⟨kTxt_T v0 v1 v2 v6, h⟩ κn κx = bldA (placeOf (CL mx) [(0, 9), (1, 64), (3, 4), (4, 76), (7, 77), (8, 78), (9, 54), (12, 45), (14, 81), (15, 83), (16, 87)]) [.str [], .nils, .nils, .bool false, .int 4294967295 0, .int 2147483647 0, .int 4294967295 0, .nil, .nil, .int 18446744073709551615 0, .int 9223372036854775807 0, .int 9223372036854775807 0, .int 9223372036854775807 0, .int 9223372036854775807 0, .int 9223372036854775807 0, .int 2147483647 0, .int 18446744073709551615 0, .int 18446744073709551615 0, .int 18446744073709551615 0, .int 18446744073709551615 0, .int 18446744073709551615 0] [(0, v2)] h (fun a0 h => boxA 90 a0 h (fun a1 h => withX (fun a2 h => κx .ret ⟨kTxt_T v0 v1 v2 a2, h⟩) (callA (CL mx) run 20 [v0, v1, a1] h))) := by kernel_rfl
theorem kTxt_end : kcE (CL mx) [.tmp 6] ⟨kTxt_T v0 v1 v2 v6, h⟩ = some (.vh v6 h) := (kcE_eq _ _ _).trans (by kernel_rfl)
theorem kTxt_fk : fkAt (CL mx) 6 = some ⟨kTxt_0 mx, [0, 1, 2, 6], 13, [.tmp 6]⟩ := by kernel_rfl
end
theorem kTxt_run (mx : Int) (run : Run) (lp : Lp) (x0 x1 x2 : AV) (h : AH) : runF (CL mx) run lp 6 [x0, x1, x2] h = vhO (kc (CL mx) run lp (kTxt_0 mx) ⟨kTxt_T x0 x1 x2 .bot, h⟩ (kcE (CL mx) [.tmp 6]) (kcQ (CL mx) [.tmp 6])) := (run_kc (by kernel_rfl) (kTxt_fk mx) (by kernel_rfl)).trans (by kernel_rfl)
theorem kTxt_nat (mx : Int) (p : List Nat) : NatK (CL mx) (kAt p (kOf (CL mx) 6)) := kAt_nat p (kOf_nat (CL mx) 6)
def kTxt_s := And.intro @kTxt_0_eq (@kTxt_end)
/- (*guipure/shelf.Shelf).put -/
def kPut_T (v0 v1 v2 v6 v7 v11 v19 : AV) : Tm := (.nd 6 (.nd 1 (.lf 0 v0) (.nd 2 (.lf 1 v1) (.lf 2 v2))) (.nd 11 (.nd 7 (.lf 6 v6) (.lf 7 v7)) (.nd 19 (.lf 11 v11) (.lf 19 v19))))
def kPut_0 (mx : Int) : K := kAt [] (kOf (CL mx) 20)
section
set_option maxRecDepth 100000
variable (mx : Int) (run : Run) (lp : Lp) (κn : Kt) (κx : Ex → Kt) (h : AH) (v0 v1 v2 v6 v7 v11 v19 : AV)
theorem kPut_0_eq : kc (CL mx) run lp (kPut_0 mx) ⟨kPut_T v0 v1 v2 v6 v7 v11 v19, h⟩ κn κx = withX (fun a0 h => notA a0 h (fun a1 h => kcIf a1 (κx .ret ⟨kPut_T v0 v1 v2 (.int 9223372036854775807 5) a1 v11 v19, h⟩) (nilCk v0 h (fun a2 h => moveP 0 a2 h (fun a3 h => load1 a3 h (fun a4 h => lookA ⟨.string, 1, 16, [.str []], false, true⟩ ⟨(.pointer 89), 1, 8, [.nil], false, false⟩ false a4 v1 h (fun a5 h => neqA ⟨(.pointer 89), 1, 8, [.nil], false, false⟩ a5 (.nil) h (fun a6 h => kcIf a6 (κx .ret ⟨kPut_T v0 v1 v2 (.int 9223372036854775807 4) a1 a6 v19, h⟩) (nilCk v0 h (fun a7 h => moveP 0 a7 h (fun a8 h => load1 a8 h (fun a9 h => lenM a9 h (fun a10 h => cmp ibeq a10 (.int 9223372036854775807 64) h (fun a11 h => kcIf a11 (κx .ret ⟨kPut_T v0 v1 v2 (.int 9223372036854775807 2) a1 a6 a11, h⟩) (nilCk v0 h (fun a12 h => moveP 0 a12 h (fun a13 h => load1 a13 h (fun a14 h => mapSetA ⟨.string, 1, 16, [.str []], false, true⟩ a14 v1 v2 h (fun a15 h => nilCk v0 h (fun a16 h => moveP 1 a16 h (fun a17 h => load1 a17 h (fun a18 h => bldS 1 1 [.str []] [(0, v1)] h (fun a19 h => appA 10 1 16 a18 a19 h (fun a20 h => nilCk v0 h (fun a21 h => moveP 1 a21 h (fun a22 h => store1 a22 a20 h (fun a23 h => κx .ret ⟨kPut_T v0 v1 v2 (.int 9223372036854775807 0) a1 a6 a11, h⟩))))))))))))))))))))))))))) (callA (CL mx) run 32 [v1] h) := by kernel_rfl
theorem kPut_end : kcE (CL mx) [.tmp 6] ⟨kPut_T v0 v1 v2 v6 v7 v11 v19, h⟩ = some (.vh v6 h) := (kcE_eq _ _ _).trans (by kernel_rfl)
theorem kPut_fk : fkAt (CL mx) 20 = some ⟨kPut_0 mx, [0, 1, 2, 6, 7, 11, 19], 42, [.tmp 6]⟩ := by kernel_rfl
end
theorem kPut_run (mx : Int) (run : Run) (lp : Lp) (x0 x1 x2 : AV) (h : AH) : runF (CL mx) run lp 20 [x0, x1, x2] h = vhO (kc (CL mx) run lp (kPut_0 mx) ⟨kPut_T x0 x1 x2 .bot .bot .bot .bot, h⟩ (kcE (CL mx) [.tmp 6]) (kcQ (CL mx) [.tmp 6])) := (run_kc (by kernel_rfl) (kPut_fk mx) (by kernel_rfl)).trans (by kernel_rfl)
theorem kPut_nat (mx : Int) (p : List Nat) : NatK (CL mx) (kAt p (kOf (CL mx) 20)) := kAt_nat p (kOf_nat (CL mx) 20)
def kPut_s := And.intro @kPut_0_eq (@kPut_end)
/- guipure/shelf.name -/
def kNam_T (v0 v2 v4 v6 v7 v8 v9 v17 : AV) : Tm := (.nd 7 (.nd 4 (.nd 2 (.lf 0 v0) (.lf 2 v2)) (.nd 6 (.lf 4 v4) (.lf 6 v6))) (.nd 9 (.nd 8 (.lf 7 v7) (.lf 8 v8)) (.nd 17 (.lf 9 v9) (.lf 17 v17))))
def kNam_0 (mx : Int) : K := kAt [] (kOf (CL mx) 32)
def kNam_1 (mx : Int) : K := kAt [1, 0] (kOf (CL mx) 32)
def kNam_2 (mx : Int) : K := kAt [1, 1] (kOf (CL mx) 32)
def kNam_3 (mx : Int) : K := kAt [1, 0, 1, 0, 0] (kOf (CL mx) 32)
section
set_option maxRecDepth 100000
variable (mx : Int) (run : Run) (lp : Lp) (κn : Kt) (κx : Ex → Kt) (h : AH) (v0 v2 v4 v6 v7 v8 v9 v17 : AV)
theorem kNam_0_eq : kc (CL mx) run lp (kNam_0 mx) ⟨kNam_T v0 v2 v4 v6 v7 v8 v9 v17, h⟩ κn κx = kc (CL mx) run lp (kNam_1 mx) ⟨kNam_T v0 (.bool false) v4 v6 v7 v8 v9 v17, h⟩ (fun s => kc (CL mx) run lp (kNam_2 mx) s κn κx) κx := by kernel_rfl
theorem kNam_1_eq : kc (CL mx) run lp (kNam_1 mx) ⟨kNam_T v0 v2 v4 v6 v7 v8 v9 v17, h⟩ κn κx = strBytes v0 h (fun a0 h => lenS a0 h (fun a1 h => kcR κn (kcO 0 κn κx) (lp (kNam_3 mx) ⟨kNam_T v0 v2 v4 a0 a1 (.int 9223372036854775807 0) v9 v17, h⟩))) := by kernel_rfl
theorem kNam_2_eq : kc (CL mx) run lp (kNam_2 mx) ⟨kNam_T v0 v2 v4 v6 v7 v8 v9 v17, h⟩ κn κx = strCmp neS v0 (.str []) h (fun a0 h => guardC a0 true (fun κ => moveA v0 h κ) h (fun a1 h => guardC a0 true (fun κ => lenT a1 h κ) h (fun a2 h => guardC a0 true (fun κ => cmp ile a2 (.int 9223372036854775807 32) h κ) h (fun a3 h => pickA a0 a3 (.bool false) h (fun a4 h => κx .ret ⟨kNam_T v0 a4 v4 v6 v7 v8 v9 v17, h⟩))))) := by kernel_rfl
theorem kNam_3_eq : kc (CL mx) run lp (kNam_3 mx) ⟨kNam_T v0 v2 v4 v6 v7 v8 v9 v17, h⟩ κn κx = cmp ilt v8 v7 h (fun a0 h => kcIf a0 (idxS 1 v6 v8 h (fun a1 h => load1 a1 h (fun a2 h => cmp ile a2 (.int 255 32) h (fun a3 h => guardC a3 false (fun κ => moveA a2 h κ) h (fun a4 h => guardC a3 false (fun κ => cmp igt a4 (.int 255 126) h κ) h (fun a5 h => pickA a3 (.bool true) a5 h (fun a6 h => kcIf a6 (κx .ret ⟨kNam_T v0 (.bool false) a2 v6 v7 v8 a0 a6, h⟩) (arith iadd v8 (.int 9223372036854775807 1) h (fun a7 h => κn ⟨kNam_T v0 v2 a2 v6 v7 a7 a0 a6, h⟩))))))))) (κx (.exit 0) ⟨kNam_T v0 v2 v4 v6 v7 v8 a0 v17, h⟩)) := by kernel_rfl
theorem kNam_end : kcE (CL mx) [.tmp 2] ⟨kNam_T v0 v2 v4 v6 v7 v8 v9 v17, h⟩ = some (.vh v2 h) := (kcE_eq _ _ _).trans (by kernel_rfl)
theorem kNam_fk : fkAt (CL mx) 32 = some ⟨kNam_0 mx, [0, 2, 4, 6, 7, 8, 9, 17], 26, [.tmp 2]⟩ := by kernel_rfl
end
theorem kNam_run (mx : Int) (run : Run) (lp : Lp) (x0 : AV) (h : AH) : runF (CL mx) run lp 32 [x0] h = vhO (kc (CL mx) run lp (kNam_0 mx) ⟨kNam_T x0 .bot .bot .bot .bot .bot .bot .bot, h⟩ (kcE (CL mx) [.tmp 2]) (kcQ (CL mx) [.tmp 2])) := (run_kc (by kernel_rfl) (kNam_fk mx) (by kernel_rfl)).trans (by kernel_rfl)
theorem kNam_nat (mx : Int) (p : List Nat) : NatK (CL mx) (kAt p (kOf (CL mx) 32)) := kAt_nat p (kOf_nat (CL mx) 32)
def kNam_s := And.intro @kNam_0_eq (And.intro @kNam_1_eq (And.intro @kNam_2_eq (And.intro @kNam_3_eq (@kNam_end))))
/- (*guipure/shelf.Shelf).Drop -/
def kDro_T (v0 v1 v3 v4 v11 : AV) : Tm := (.nd 3 (.nd 1 (.lf 0 v0) (.lf 1 v1)) (.nd 4 (.lf 3 v3) (.nd 11 (.lf 4 v4) (.lf 11 v11))))
def kDro_0 (mx : Int) : K := kAt [] (kOf (CL mx) 8)
def kDro_1 (mx : Int) : K := kAt [1, 0] (kOf (CL mx) 8)
def kDro_2 (mx : Int) : K := kAt [1, 1] (kOf (CL mx) 8)
def kDro_3 (mx : Int) : K := kAt [1, 0, 0] (kOf (CL mx) 8)
def kDro_4 (mx : Int) : K := kAt [1, 0, 1] (kOf (CL mx) 8)
def kDro_5 (mx : Int) : K := kAt [1, 1, 0] (kOf (CL mx) 8)
def kDro_6 (mx : Int) : K := kAt [1, 1, 1] (kOf (CL mx) 8)
section
set_option maxRecDepth 100000
variable (mx : Int) (run : Run) (lp : Lp) (κn : Kt) (κx : Ex → Kt) (h : AH) (v0 v1 v3 v4 v11 : AV)
theorem kDro_0_eq : kc (CL mx) run lp (kDro_0 mx) ⟨kDro_T v0 v1 v3 v4 v11, h⟩ κn κx = boxA 10 v1 h (fun a0 h => kc (CL mx) run lp (kDro_1 mx) ⟨kDro_T v0 v1 a0 (.int 9223372036854775807 0) v11, h⟩ (fun s => kc (CL mx) run lp (kDro_2 mx) s κn κx) κx) := by kernel_rfl
theorem kDro_1_eq : kc (CL mx) run lp (kDro_1 mx) ⟨kDro_T v0 v1 v3 v4 v11, h⟩ κn κx = kc (CL mx) run lp (kDro_3 mx) ⟨kDro_T v0 v1 v3 v4 v11, h⟩ (fun s => kc (CL mx) run lp (kDro_4 mx) s κn κx) κx := by kernel_rfl
theorem kDro_2_eq : kc (CL mx) run lp (kDro_2 mx) ⟨kDro_T v0 v1 v3 v4 v11, h⟩ κn κx = kc (CL mx) run lp (kDro_5 mx) ⟨kDro_T v0 v1 v3 v4 v11, h⟩ (fun s => kc (CL mx) run lp (kDro_6 mx) s κn κx) κx := by kernel_rfl
theorem kDro_3_eq : kc (CL mx) run lp (kDro_3 mx) ⟨kDro_T v0 v1 v3 v4 v11, h⟩ κn κx = nilCk v0 h (fun a0 h => moveP 0 a0 h (fun a1 h => load1 a1 h (fun a2 h => load1 v3 h (fun a3 h => lookA ⟨.string, 1, 16, [.str []], false, true⟩ ⟨(.pointer 89), 1, 8, [.nil], false, false⟩ false a2 a3 h (fun a4 h => eqlA ⟨(.pointer 89), 1, 8, [.nil], false, false⟩ a4 (.nil) h (fun a5 h => κn ⟨kDro_T v0 v1 v3 v4 a5, h⟩)))))) := (plain_kc (C := CL mx) (ops := opsOf (cAt [1, 0, 0] (codeOf (CL mx) 8))) (ps := [0, 1, 3, 4, 11]) (by kernel_rfl) (by kernel_rfl) _ _ _).trans (by kernel_rfl)
theorem kDro_4_eq : kc (CL mx) run lp (kDro_4 mx) ⟨kDro_T v0 v1 v3 v4 v11, h⟩ κn κx = kcIf v11 (κx .ret ⟨kDro_T v0 v1 v3 (.int 9223372036854775807 3) v11, h⟩) (κn ⟨kDro_T v0 v1 v3 v4 v11, h⟩) := by kernel_rfl
theorem kDro_5_eq : kc (CL mx) run lp (kDro_5 mx) ⟨kDro_T v0 v1 v3 v4 v11, h⟩ κn κx = nilCk v0 h (fun a0 h => moveP 0 a0 h (fun a1 h => load1 a1 h (fun a2 h => load1 v3 h (fun a3 h => delA ⟨.string, 1, 16, [.str []], false, true⟩ a2 a3 h (fun a4 h1 => bq (Nat.ble (flen h) (flen h1)) ((fun h => κn ⟨kDro_T v0 v1 v3 v4 v11, h⟩) h1) none))))) := (plain_kc (C := CL mx) (ops := opsOf (cAt [1, 1, 0] (codeOf (CL mx) 8))) (ps := [0, 1, 3, 4, 11]) (by kernel_rfl) (by kernel_rfl) _ _ _).trans (by kernel_rfl)
theorem kDro_6_eq : kc (CL mx) run lp (kDro_6 mx) ⟨kDro_T v0 v1 v3 v4 v11, h⟩ κn κx = nilCk v0 h (fun a0 h => moveP 1 a0 h (fun a1 h => load1 a1 h (fun a2 h => withX (fun a3 h => (fun a4 h => withX (fun a5 h => nilCk v0 h (fun a6 h => moveP 1 a6 h (fun a7 h => store1 a7 a5 h (fun a8 h => κx .ret ⟨kDro_T v0 v1 v3 (.int 9223372036854775807 0) v11, h⟩)))) (callA (CL mx) run 22 [a3, a4] h)) (.fn 24 [] [v3]) h) (callA (CL mx) run 23 [a2] h)))) := by kernel_rfl
theorem kDro_end : kcE (CL mx) [.tmp 4] ⟨kDro_T v0 v1 v3 v4 v11, h⟩ = some (.vh v4 h) := (kcE_eq _ _ _).trans (by kernel_rfl)
theorem kDro_fk : fkAt (CL mx) 8 = some ⟨kDro_0 mx, [0, 1, 3, 4, 11], 27, [.tmp 4]⟩ := by kernel_rfl
end
theorem kDro_run (mx : Int) (run : Run) (lp : Lp) (x0 x1 : AV) (h : AH) : runF (CL mx) run lp 8 [x0, x1] h = vhO (kc (CL mx) run lp (kDro_0 mx) ⟨kDro_T x0 x1 .bot .bot .bot, h⟩ (kcE (CL mx) [.tmp 4]) (kcQ (CL mx) [.tmp 4])) := (run_kc (by kernel_rfl) (kDro_fk mx) (by kernel_rfl)).trans (by kernel_rfl)
theorem kDro_nat (mx : Int) (p : List Nat) : NatK (CL mx) (kAt p (kOf (CL mx) 8)) := kAt_nat p (kOf_nat (CL mx) 8)
def kDro_s := And.intro @kDro_0_eq (And.intro @kDro_1_eq (And.intro @kDro_2_eq (And.intro @kDro_3_eq (And.intro @kDro_4_eq (And.intro @kDro_5_eq (And.intro @kDro_6_eq (@kDro_end)))))))
/- (*guipure/shelf.Shelf).Names -/
def kNms_T (v0 v2 : AV) : Tm := (.nd 2 (.lf 0 v0) (.lf 2 v2))
def kNms_0 (mx : Int) : K := kAt [] (kOf (CL mx) 11)
section
set_option maxRecDepth 100000
variable (mx : Int) (run : Run) (lp : Lp) (κn : Kt) (κx : Ex → Kt) (h : AH) (v0 v2 : AV)
theorem kNms_0_eq : kc (CL mx) run lp (kNms_0 mx) ⟨kNms_T v0 v2, h⟩ κn κx = nilCk v0 h (fun a0 h => moveP 1 a0 h (fun a1 h => load1 a1 h (fun a2 h => withX (fun a3 h => κx .ret ⟨kNms_T v0 a3, h⟩) (callA (CL mx) run 23 [a2] h)))) := by kernel_rfl
theorem kNms_end : kcE (CL mx) [.tmp 2] ⟨kNms_T v0 v2, h⟩ = some (.vh v2 h) := (kcE_eq _ _ _).trans (by kernel_rfl)
theorem kNms_fk : fkAt (CL mx) 11 = some ⟨kNms_0 mx, [0, 2], 8, [.tmp 2]⟩ := by kernel_rfl
end
theorem kNms_run (mx : Int) (run : Run) (lp : Lp) (x0 : AV) (h : AH) : runF (CL mx) run lp 11 [x0] h = vhO (kc (CL mx) run lp (kNms_0 mx) ⟨kNms_T x0 .bot, h⟩ (kcE (CL mx) [.tmp 2]) (kcQ (CL mx) [.tmp 2])) := (run_kc (by kernel_rfl) (kNms_fk mx) (by kernel_rfl)).trans (by kernel_rfl)
theorem kNms_nat (mx : Int) (p : List Nat) : NatK (CL mx) (kAt p (kOf (CL mx) 11)) := kAt_nat p (kOf_nat (CL mx) 11)
def kNms_s := And.intro @kNms_0_eq (@kNms_end)
/- (*guipure/shelf.Shelf).Get -/
def kGet_T (v0 v1 v4 : AV) : Tm := (.nd 1 (.lf 0 v0) (.nd 4 (.lf 1 v1) (.lf 4 v4)))
def kGet_0 (mx : Int) : K := kAt [] (kOf (CL mx) 12)
section
set_option maxRecDepth 100000
variable (mx : Int) (run : Run) (lp : Lp) (κn : Kt) (κx : Ex → Kt) (h : AH) (v0 v1 v4 : AV)
theorem kGet_0_eq : kc (CL mx) run lp (kGet_0 mx) ⟨kGet_T v0 v1 v4, h⟩ κn κx = nilCk v0 h (fun a0 h => moveP 0 a0 h (fun a1 h => load1 a1 h (fun a2 h => lookA ⟨.string, 1, 16, [.str []], false, true⟩ ⟨(.pointer 89), 1, 8, [.nil], false, false⟩ false a2 v1 h (fun a3 h => κx .ret ⟨kGet_T v0 v1 a3, h⟩)))) := by kernel_rfl
theorem kGet_end : kcE (CL mx) [.tmp 4] ⟨kGet_T v0 v1 v4, h⟩ = some (.vh v4 h) := (kcE_eq _ _ _).trans (by kernel_rfl)
theorem kGet_fk : fkAt (CL mx) 12 = some ⟨kGet_0 mx, [0, 1, 4], 11, [.tmp 4]⟩ := by kernel_rfl
end
theorem kGet_run (mx : Int) (run : Run) (lp : Lp) (x0 x1 : AV) (h : AH) : runF (CL mx) run lp 12 [x0, x1] h = vhO (kc (CL mx) run lp (kGet_0 mx) ⟨kGet_T x0 x1 .bot, h⟩ (kcE (CL mx) [.tmp 4]) (kcQ (CL mx) [.tmp 4])) := (run_kc (by kernel_rfl) (kGet_fk mx) (by kernel_rfl)).trans (by kernel_rfl)
theorem kGet_nat (mx : Int) (p : List Nat) : NatK (CL mx) (kAt p (kOf (CL mx) 12)) := kAt_nat p (kOf_nat (CL mx) 12)
def kGet_s := And.intro @kGet_0_eq (@kGet_end)
end
section
variable {mx : Int} {Q : Option Rs → Prop} {κn : Kt} {κx : Ex → Kt} {v0 : AV} {L : List (List Nat)} {n : List Nat} {h : AH}
/-- An element is taken out of a row. -/
theorem Ow1.del {S : Nat → Prop} {v x : AV} {A B : List AV} (o : Ow1 h S v (A ++ x :: B)) (hB : plains B = true) (ty : Nat) {by_ : Nat} (k1 k2 k3 : Nat) :
    ∃ t0 a0 a1 v1 h1 t1 h2, (∀ κ : Ka, slS 1 v (some (.int k1 (A.length : Int))) (some (.int k2 ((A.length + 1 : Nat) : Int))) (some (.int k3 ((A.length + 1 + B.length : Nat) : Int))) h κ = κ t0 h) ∧
      (∀ κ : Ka, slS 1 v none (some (.int k1 (A.length : Int))) none h κ = κ a0 h) ∧ (∀ κ : Ka, slS 1 v (some (.int k2 ((A.length + 1 : Nat) : Int))) none none h κ = κ a1 h) ∧
      (∀ κ : Ka, appA ty 1 by_ a0 a1 h κ = κ v1 h1) ∧ (∀ κ : Ka, lenS v1 h1 κ = κ (.int 9223372036854775807 ((A.length + B.length : Nat) : Int)) h1) ∧
      (∀ κ : Ka, slS 1 v1 (some (.int 9223372036854775807 ((A.length + B.length : Nat) : Int))) (some (.int k3 ((A.length + 1 + B.length : Nat) : Int))) none h1 κ = κ t1 h1) ∧ (∀ κ : Ka, clrA 1 [.str []] t1 h1 κ = κ (.tup []) h2) ∧
      Ow1 h2 S v1 (A ++ B) ∧ h1.length = h.length ∧ h2.length = h.length ∧ ∀ j, ¬ S j → hget h2 j = hget h j := by
  rcases o with ⟨c, _⟩ | ⟨b, cap, e, junk, y, hs, rfl, hb, hl⟩
  · simp at c
  · have hn : (A ++ x :: B).length = A.length + 1 + B.length := by simp; omega
    rw [hn] at hl ⊢
    have t0 : ∃ t0, ∀ κ : Ka, slS 1 (.slo b 0 (A.length + 1 + B.length) cap 1 e) (some (.int k1 (A.length : Int))) (some (.int k2 ((A.length + 1 : Nat) : Int))) (some (.int k3 ((A.length + 1 + B.length : Nat) : Int))) h κ = κ t0 h := by
      refine ⟨.slo b A.length (A.length + 1 - A.length) (A.length + 1 + B.length - A.length) 1 (or e true), fun κ => ?_⟩
      show bq (and (and (Nat.ble A.length (A.length + 1)) (Nat.ble (A.length + 1) (A.length + 1 + B.length))) (and (Nat.ble (A.length + 1 + B.length) cap) true)) (bq (Nat.beq 1 1) (bq (Nat.beq A.length (A.length + 1 + B.length)) (κ .sle h) (κ (.slo b (Nat.add 0 (Nat.mul A.length 1)) (Nat.sub (A.length + 1) A.length) (Nat.sub (A.length + 1 + B.length) A.length) 1 (or e true)) h)) none) none = _
      rw [nble, nble, nble, nbeq, nbeq, decide_eq_true (show A.length ≤ A.length + 1 by omega), decide_eq_true (show A.length + 1 ≤ A.length + 1 + B.length by omega), decide_eq_true (show A.length + 1 + B.length ≤ cap by omega), decide_eq_true rfl, decide_eq_false (show ¬ A.length = A.length + 1 + B.length by omega), show Nat.add 0 (Nat.mul A.length 1) = A.length by show 0 + A.length * 1 = _; omega]
      rfl
    obtain ⟨t0, ht0⟩ := t0
    have a1 : ∃ a1, (∀ κ : Ka, slS 1 (.slo b 0 (A.length + 1 + B.length) cap 1 e) (some (.int k2 ((A.length + 1 : Nat) : Int))) none none h κ = κ a1 h) ∧ lenA a1 = some B.length ∧ elemsA h 1 B.length a1 = some B := by
      by_cases hc : A.length + 1 = cap
      · have hB0 : B = [] := List.length_eq_zero_iff.1 (by omega)
        subst hB0
        refine ⟨.sle, fun κ => ?_, rfl, rfl⟩
        rw [show A.length + 1 + ([] : List AV).length = A.length + 1 from rfl, ← hc]
        exact slS_tail0 h k2 κ
      · refine ⟨_, fun κ => slS_tail (l := A.length + 1) (by omega) (by omega) (by omega) h k2 κ, by show some (A.length + 1 + B.length - (A.length + 1)) = _; congr 1; omega, ?_⟩
        unfold elemsA
        simp only [hb]
        show bq (Nat.ble (Nat.add (A.length + 1) (Nat.mul B.length 1)) (flen (A ++ x :: B ++ junk))) (some (ftake (Nat.mul B.length 1) (fdrop (A.length + 1) (A ++ x :: B ++ junk)))) none = _
        rw [nble, flen_eq, ftake_eq, fdrop_eq, show Nat.mul B.length 1 = B.length from Nat.mul_one _, bq_dec_pos (by show A.length + 1 + B.length ≤ _; simp; omega), show A ++ x :: B ++ junk = (A ++ [x]) ++ (B ++ junk) by simp, show A.length + 1 = (A ++ [x]).length by simp, List.drop_left, List.take_left]
    obtain ⟨a1, ha1, hl1, he1⟩ := a1
    obtain ⟨w, hw⟩ : ∃ w, (x :: B).drop B.length = [w] := by
      have : ((x :: B).drop B.length).length = 1 := by simp
      exact List.length_eq_one_iff.1 this
    have happ : ∀ κ : Ka, appA ty 1 by_ (.slo b 0 A.length cap 1 e) a1 h κ = κ (.slo b 0 (A.length + B.length) cap 1 e) (h.set b (some (.cells (A ++ B ++ ([w] ++ junk)) y))) := by
      intro κ
      unfold appA
      rw [hl1, obind_some, he1, obind_some, hB, nbeq, flen_eq, show Nat.mul B.length 1 = B.length from Nat.mul_one _, decide_eq_true rfl]
      show bq (Nat.beq 1 1) (cellsR h b (apC ty 1 by_ B.length B h κ b 0 A.length cap e) _) none = _
      show cellsR h b _ _ = _
      unfold cellsR
      rw [hb]
      show apC ty 1 by_ B.length B h κ b 0 A.length cap e (A ++ x :: B ++ junk) y = _
      unfold apC
      rw [nble, bq_dec_pos (show Nat.add A.length B.length ≤ cap by show A.length + B.length ≤ cap; omega), nble, flen_eq, bq_dec_pos (by show 0 + (A.length + B.length) * 1 ≤ _; simp; omega)]
      unfold setR
      rw [fset_eq, ftake_eq, fdrop_eq, fapp_eq, fapp_eq, flen_eq]
      show κ (.slo b 0 (A.length + B.length) cap 1 e) (h.set b (some (.cells ((A ++ x :: B ++ junk).take (0 + A.length * 1) ++ (B ++ (A ++ x :: B ++ junk).drop (0 + A.length * 1 + B.length))) y))) = _
      have d1 : (A ++ x :: B ++ junk).take (0 + A.length * 1) = A := by rw [Nat.zero_add, Nat.mul_one, List.append_assoc, List.take_left]
      have d2 : (A ++ x :: B ++ junk).drop (0 + A.length * 1 + B.length) = [w] ++ junk := by
        rw [Nat.zero_add, Nat.mul_one, List.append_assoc, ← List.drop_drop, List.drop_left, List.drop_append_of_le_length (by simp), hw]
      rw [d1, d2]
      simp
    have hlt := hget_of_lt hb
    have hg1 : hget (h.set b (some (.cells (A ++ B ++ ([w] ++ junk)) y))) b = some (.cells (A ++ B ++ ([w] ++ junk)) y) := hget_set_same hlt _
    refine ⟨t0, _, a1, _, _, _, _, ht0, fun κ => slS_head (i := A.length) (by omega) (by omega) (by omega) h k1 κ, ha1, happ, fun κ => rfl, fun κ => slS_del (l := A.length + B.length) (u := A.length + 1 + B.length) (by omega) (by omega) (by omega) _ _ _ κ, fun κ => clrA_o (by omega) hg1 (by simp; omega) κ, .inr ⟨b, cap, e, .str [] :: junk, y, hs, by simp, ?_, by simp; omega⟩, by simp, by simp, fun j hj => ?_⟩
    · rw [hget_set_same (by rw [List.length_set]; exact hlt)]
      have : A.length + B.length = (A ++ B).length := by simp
      rw [this, List.take_left, ← List.drop_drop, List.drop_left]
      simp
    · have hne : b ≠ j := fun cc => hj (cc ▸ hs)
      rw [hget_set_ne hne, hget_set_ne hne]
theorem del_gives {S : Nat → Prop} {x : List Nat} {A B : List (List Nat)} (hl : A.length + B.length ≤ 100000) (o : Ow1 h S v0 (strsA (A ++ x :: B))) (f : Nat) :
    Gives (fun r h' => Ow1 h' S r (strsA (A ++ B)) ∧ h'.length = h.length ∧ ∀ i, ¬ S i → hget h' i = hget h i) ((rl (CL mx) (f + 1)).run 9 [v0, .int 9223372036854775807 (A.length : Int), .int 9223372036854775807 ((A.length + 1 : Nat) : Int)] h) := by
  refine Gives.runs (n := f) (kDel_run mx _ _ _ _ _ _) ?_
  have l0 := fun κ => o.at.lenS h κ
  have e0 : ((strsA (A ++ x :: B)).length : Int) = ((A.length + 1 + B.length : Nat) : Int) := by simp [strsA_len]; omega
  rw [e0] at l0
  have o' : Ow1 h S v0 (strsA A ++ .str x :: strsA B) := by rw [strsA_app] at o; exact o
  obtain ⟨t0, a0, a1, v1, h1, t1, h2, d0, d1, d2, d3, d4, d5, d6, d7, d8, d9, d10⟩ := o'.del (strsA_plains B) (9 + 1) (by_ := 16) 9223372036854775807 9223372036854775807 9223372036854775807
  rw [strsA_len, strsA_len] at d0 d5
  rw [strsA_len] at d1 d2
  rw [strsA_len, strsA_len] at d4
  have e1 : decide ((A.length : Int) = ((A.length + 1 : Nat) : Int)) = false := by rw [decide_eq_false_iff_not]; omega
  have hb : Nat.ble (flen h) (flen h1) = true := by rw [nble, flen_eq, flen_eq, d8]; simp
  simp only [sy, Nat.reduceAdd, Nat.reduceMul, Nat.reduceSub, Nat.reduceLeDiff, Nat.reduceEqDiff, Nat.reduceLT, reduceIte, kDel_s, l0, d0, e1, d1, d2, d3, hb, d4, d5, d6]
  refine Ends.mk ⟨?_, d9, d10⟩
  rw [strsA_app]; exact d7
/-- May a name be? -/
def nameOk (n : List Nat) : Bool := decide (n ≠ []) && decide (n.length ≤ 32) && n.all fun c => decide (32 < c) && decide (c < 127)
theorem strBytes_eq (l : List Nat) (κ : Ka) : strBytes (.str l) h κ = κ (.slo h.length 0 l.length l.length 1 false) (h ++ [some (.cells (bytesA l) 0)]) := by
  show κ (.slo (flen h) 0 (flen l) (flen l) 1 false) (fapp h [some (.cells (intsOf l) 0)]) = _
  rw [flen_eq, flen_eq, fapp_eq]
  unfold intsOf
  rw [fmap_eq]; rfl
theorem bytes_new (l : List Nat) : SlAt (h ++ [some (.cells (bytesA l) 0)]) (.slo h.length 0 l.length l.length 1 false) (bytesA l) :=
  .inr (.inr ⟨h.length, 0, l.length, bytesA l, 0, false, by rw [bytesA_len], hget_top _ _, by rw [List.drop_zero, List.take_length], by rw [bytesA_len]; omega⟩)
theorem nam_loop {v6 : AV} (h6 : SlAt h v6 (bytesA n)) (hb : n.length ≤ 1000) (v2 : AV) : ∀ (R P : List Nat) (f : Nat) (v4 v9 v17 : AV), n = P ++ R → R.length + 2 ≤ f →
    ((R.all fun c => decide (32 < c) && decide (c < 127)) = true → ∀ v4 v8 v9 v17, Q (κx (.exit 0) ⟨kNam_T (.str n) v2 v4 v6 (.int 9223372036854775807 (n.length : Int)) v8 v9 v17, h⟩)) →
    ((R.all fun c => decide (32 < c) && decide (c < 127)) = false → ∀ v4 v8 v9 v17, Q (κx .ret ⟨kNam_T (.str n) (.bool false) v4 v6 (.int 9223372036854775807 (n.length : Int)) v8 v9 v17, h⟩)) →
    Q (kcR κn κx ((rl (CL mx) f).lp (kNam_3 mx) ⟨kNam_T (.str n) v2 v4 v6 (.int 9223372036854775807 (n.length : Int)) (.int 9223372036854775807 (P.length : Int)) v9 v17, h⟩)) := by
  intro R
  induction R with
  | nil =>
    intro P f v4 v9 v17 hn hf hk hr
    obtain ⟨f, rfl⟩ := fuel hf
    obtain rfl : n = P := by simpa using hn
    refine wLoop (kNam_nat mx _) ?_
    simp only [sy, List.length_append, Nat.reduceAdd, Nat.reduceMul, Nat.reduceSub, Nat.reduceLeDiff, Nat.reduceEqDiff, Nat.reduceLT, reduceIte, kNam_s, Int.lt_irrefl]
    exact hk rfl _ _ _ _
  | cons c R ih =>
    intro P f v4 v9 v17 hn hf hk hr
    obtain ⟨f, rfl⟩ := fuel hf
    have hlen : n.length = P.length + (R.length + 1) := by rw [hn]; simp
    have ec : n[P.length]? = some c := by rw [hn]; simp
    obtain ⟨p, _, p2, p3⟩ := h6.idx (bytesA_get ec)
    have e1 : decide ((P.length : Int) < (n.length : Int)) = true := by rw [decide_eq_true_iff]; omega
    have e4 : wrapA 9223372036854775807 ((P.length : Int) + 1) = ((P.length + 1 : Nat) : Int) := by rw [wrapA_i64 (by omega) (by omega)]; simp
    refine wLoop (kNam_nat mx _) ?_
    by_cases h1 : c ≤ 32
    · have g1 : decide ((c : Int) ≤ 32) = true := by rw [decide_eq_true_iff]; omega
      simp only [sy, List.length_append, Nat.reduceAdd, Nat.reduceMul, Nat.reduceSub, Nat.reduceLeDiff, Nat.reduceEqDiff, Nat.reduceLT, reduceIte, kNam_s, e1, p2, p3, g1]
      exact hr (by simp [show ¬ 32 < c by omega]) _ _ _ _
    · have g1 : decide ((c : Int) ≤ 32) = false := by rw [decide_eq_false_iff_not]; omega
      by_cases h2 : 126 < c
      · have g2 : decide ((126 : Int) < (c : Int)) = true := by rw [decide_eq_true_iff]; omega
        simp only [sy, List.length_append, Nat.reduceAdd, Nat.reduceMul, Nat.reduceSub, Nat.reduceLeDiff, Nat.reduceEqDiff, Nat.reduceLT, reduceIte, kNam_s, e1, p2, p3, g1, g2]
        exact hr (by simp [show ¬ c < 127 by omega]) _ _ _ _
      · have g2 : decide ((126 : Int) < (c : Int)) = false := by rw [decide_eq_false_iff_not]; omega
        simp only [sy, List.length_append, Nat.reduceAdd, Nat.reduceMul, Nat.reduceSub, Nat.reduceLeDiff, Nat.reduceEqDiff, Nat.reduceLT, reduceIte, kNam_s, e1, p2, p3, g1, g2, e4]
        have key := fun v4 v9 v17 => ih (P ++ [c]) (f + R.length + 2) v4 v9 v17 (by rw [hn]; simp) (by omega) (fun hh => hk (by rw [List.all_cons, hh]; simp [show 32 < c by omega, show c < 127 by omega])) (fun hh => hr (by rw [List.all_cons, hh]; simp))
        rw [show (P ++ [c]).length = P.length + 1 by simp] at key
        exact key _ _ _
theorem nam_gives (hb : n.length ≤ 1000) (f : Nat) (hf : n.length + 4 ≤ f) : Gives (fun r h' => r = .bool (nameOk n) ∧ Fr h.length h h') ((rl (CL mx) f).run 32 [.str n] h) := by
  obtain ⟨f, rfl⟩ := fuel hf
  refine Gives.runs (n := f + n.length + 3) (kNam_run mx _ _ _ _) ?_
  have l1 := fun κ => (bytes_new (h := h) n).lenS (h ++ [some (.cells (bytesA n) 0)]) κ
  rw [bytesA_len] at l1
  simp only [sy, List.length_append, Nat.reduceAdd, Nat.reduceMul, Nat.reduceSub, Nat.reduceLeDiff, Nat.reduceEqDiff, Nat.reduceLT, reduceIte, kNam_s, strBytes_eq, l1]
  have key := nam_loop (mx := mx) (Q := Ends fun r h' => r = .bool (nameOk n) ∧ Fr h.length h h') (κn := fun s => kc (CL mx) (rl (CL mx) (f + n.length + 3)).run (rl (CL mx) (f + n.length + 3)).lp (kNam_2 mx) s (kcE (CL mx) [.tmp 2]) (kcQ (CL mx) [.tmp 2])) (κx := kcO 0 (fun s => kc (CL mx) (rl (CL mx) (f + n.length + 3)).run (rl (CL mx) (f + n.length + 3)).lp (kNam_2 mx) s (kcE (CL mx) [.tmp 2]) (kcQ (CL mx) [.tmp 2])) (kcQ (CL mx) [.tmp 2])) (bytes_new (h := h) n) hb (.bool false) n [] (f + n.length + 3) .bot .bot .bot (by simp) (by omega)
    (fun hh v4 v8 v9 v17 => by
      by_cases h0 : n = []
      · subst h0
        simp only [sy, Nat.reduceAdd, Nat.reduceMul, Nat.reduceSub, Nat.reduceLeDiff, Nat.reduceEqDiff, Nat.reduceLT, reduceIte, kNam_s, neS_nil, ne_eq, not_true_eq_false, decide_false]
        exact Ends.mk ⟨rfl, Fr.push (Nat.le_refl _) _⟩
      · by_cases h32 : n.length ≤ 32
        · have g : decide ((n.length : Int) ≤ 32) = true := by rw [decide_eq_true_iff]; omega
          simp only [sy, Nat.reduceAdd, Nat.reduceMul, Nat.reduceSub, Nat.reduceLeDiff, Nat.reduceEqDiff, Nat.reduceLT, reduceIte, kNam_s, neS_nil, ne_eq, h0, not_false_eq_true, decide_true, g]
          exact Ends.mk ⟨by unfold nameOk; rw [hh]; simp [h0, h32], Fr.push (Nat.le_refl _) _⟩
        · have g : decide ((n.length : Int) ≤ 32) = false := by rw [decide_eq_false_iff_not]; omega
          simp only [sy, Nat.reduceAdd, Nat.reduceMul, Nat.reduceSub, Nat.reduceLeDiff, Nat.reduceEqDiff, Nat.reduceLT, reduceIte, kNam_s, neS_nil, ne_eq, h0, not_false_eq_true, decide_true, g]
          exact Ends.mk ⟨by unfold nameOk; rw [hh]; simp [h0, h32], Fr.push (Nat.le_refl _) _⟩)
    (fun hh v4 v8 v9 v17 => by
      simp only [sy, Nat.reduceAdd, Nat.reduceMul, Nat.reduceSub, Nat.reduceLeDiff, Nat.reduceEqDiff, Nat.reduceLT, reduceIte, kNam_s]
      exact Ends.mk ⟨by unfold nameOk; rw [hh]; simp, Fr.push (Nat.le_refl _) _⟩)
  exact key
end
end Go.Proofs.YtdkioifmieamoaaGreatDoor
