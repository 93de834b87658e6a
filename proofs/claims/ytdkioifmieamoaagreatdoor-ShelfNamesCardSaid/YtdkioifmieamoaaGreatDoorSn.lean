/- Rows of texts: what package slices does to them. The functions' code is printed by a program. -/
import Derived.Test.YtdkioifmieamoaaGreatDoorMF
import Derived.Test.YtdkioifmieamoaaGreatDoorKe
import Derived.Test.YtdkioifmieamoaaGreatDoorME
import Derived.Test.YtdkioifmieamoaaGreatDoorOw
namespace Go.Proofs.YtdkioifmieamoaaGreatDoor
set_option linter.unusedSimpArgs false
set_option linter.unusedVariables false
set_option linter.unnecessarySimpa false
set_option linter.defProp false
noncomputable section
/-- The context: the head is told ahead, all other calls run where they are called. -/
def CL (mx : Int) : Cx := ((C0 mx).told (.lf 4 [([], .bool true)])).ownd fun f => not (Nat.beq f 4)
/- slices.Contains[[]string,string] -/
def kCon_T (v0 v1 v4 : AV) : Tm := (.nd 1 (.lf 0 v0) (.nd 4 (.lf 1 v1) (.lf 4 v4)))
def kCon_0 (mx : Int) : K := kAt [] (kOf (CL mx) 7)
section
set_option maxRecDepth 100000
variable (mx : Int) (run : Run) (lp : Lp) (κn : Kt) (κx : Ex → Kt) (h : AH) (v0 v1 v4 : AV)
theorem kCon_0_eq : kc (CL mx) run lp (kCon_0 mx) ⟨kCon_T v0 v1 v4, h⟩ κn κx = withX (fun a0 h => cmp ige a0 (.int 9223372036854775807 0) h (fun a1 h => κx .ret ⟨kCon_T v0 v1 a1, h⟩)) (callA (CL mx) run 21 [v0, v1] h) := by kernel_rfl
theorem kCon_end : kcE (CL mx) [.tmp 4] ⟨kCon_T v0 v1 v4, h⟩ = some (.vh v4 h) := (kcE_eq _ _ _).trans (by kernel_rfl)
theorem kCon_fk : fkAt (CL mx) 7 = some ⟨kCon_0 mx, [0, 1, 4], 9, [.tmp 4]⟩ := by kernel_rfl
end
theorem kCon_run (mx : Int) (run : Run) (lp : Lp) (x0 x1 : AV) (h : AH) : runF (CL mx) run lp 7 [x0, x1] h = vhO (kc (CL mx) run lp (kCon_0 mx) ⟨kCon_T x0 x1 .bot, h⟩ (kcE (CL mx) [.tmp 4]) (kcQ (CL mx) [.tmp 4])) := (run_kc (by kernel_rfl) (kCon_fk mx) (by kernel_rfl)).trans (by kernel_rfl)
theorem kCon_nat (mx : Int) (p : List Nat) : NatK (CL mx) (kAt p (kOf (CL mx) 7)) := kAt_nat p (kOf_nat (CL mx) 7)
def kCon_s := And.intro @kCon_0_eq (@kCon_end)
/- slices.Index[[]string,string] -/
def kInd_T (v0 v1 v4 v5 v7 v8 v9 v16 : AV) : Tm := (.nd 7 (.nd 4 (.nd 1 (.lf 0 v0) (.lf 1 v1)) (.nd 5 (.lf 4 v4) (.lf 5 v5))) (.nd 9 (.nd 8 (.lf 7 v7) (.lf 8 v8)) (.nd 16 (.lf 9 v9) (.lf 16 v16))))
def kInd_0 (mx : Int) : K := kAt [] (kOf (CL mx) 21)
def kInd_1 (mx : Int) : K := kAt [1, 0] (kOf (CL mx) 21)
def kInd_2 (mx : Int) : K := kAt [1, 1] (kOf (CL mx) 21)
def kInd_3 (mx : Int) : K := kAt [1, 0, 1, 0, 0] (kOf (CL mx) 21)
section
set_option maxRecDepth 100000
variable (mx : Int) (run : Run) (lp : Lp) (κn : Kt) (κx : Ex → Kt) (h : AH) (v0 v1 v4 v5 v7 v8 v9 v16 : AV)
theorem kInd_0_eq : kc (CL mx) run lp (kInd_0 mx) ⟨kInd_T v0 v1 v4 v5 v7 v8 v9 v16, h⟩ κn κx = kc (CL mx) run lp (kInd_1 mx) ⟨kInd_T v0 v1 (.int 9223372036854775807 0) v5 v7 v8 v9 v16, h⟩ (fun s => kc (CL mx) run lp (kInd_2 mx) s κn κx) κx := by kernel_rfl
theorem kInd_1_eq : kc (CL mx) run lp (kInd_1 mx) ⟨kInd_T v0 v1 v4 v5 v7 v8 v9 v16, h⟩ κn κx = lenS v0 h (fun a0 h => kcR κn (kcO 0 κn κx) (lp (kInd_3 mx) ⟨kInd_T v0 v1 v4 v5 a0 (.int 9223372036854775807 0) v9 v16, h⟩)) := by kernel_rfl
theorem kInd_2_eq : kc (CL mx) run lp (kInd_2 mx) ⟨kInd_T v0 v1 v4 v5 v7 v8 v9 v16, h⟩ κn κx = κx .ret ⟨kInd_T v0 v1 (.int 9223372036854775807 (-1)) v5 v7 v8 v9 v16, h⟩ := by kernel_rfl
theorem kInd_3_eq : kc (CL mx) run lp (kInd_3 mx) ⟨kInd_T v0 v1 v4 v5 v7 v8 v9 v16, h⟩ κn κx = cmp ilt v8 v7 h (fun a0 h => kcIf a0 (idxS 1 v0 v8 h (fun a1 h => load1 a1 h (fun a2 h => strCmp eqS v1 a2 h (fun a3 h => kcIf a3 (κx .ret ⟨kInd_T v0 v1 v8 v8 v7 v8 a0 a3, h⟩) (arith iadd v8 (.int 9223372036854775807 1) h (fun a4 h => κn ⟨kInd_T v0 v1 v4 v8 v7 a4 a0 a3, h⟩)))))) (κx (.exit 0) ⟨kInd_T v0 v1 v4 v5 v7 v8 a0 v16, h⟩)) := by kernel_rfl
theorem kInd_end : kcE (CL mx) [.tmp 4] ⟨kInd_T v0 v1 v4 v5 v7 v8 v9 v16, h⟩ = some (.vh v4 h) := (kcE_eq _ _ _).trans (by kernel_rfl)
theorem kInd_fk : fkAt (CL mx) 21 = some ⟨kInd_0 mx, [0, 1, 4, 5, 7, 8, 9, 16], 19, [.tmp 4]⟩ := by kernel_rfl
end
theorem kInd_run (mx : Int) (run : Run) (lp : Lp) (x0 x1 : AV) (h : AH) : runF (CL mx) run lp 21 [x0, x1] h = vhO (kc (CL mx) run lp (kInd_0 mx) ⟨kInd_T x0 x1 .bot .bot .bot .bot .bot .bot, h⟩ (kcE (CL mx) [.tmp 4]) (kcQ (CL mx) [.tmp 4])) := (run_kc (by kernel_rfl) (kInd_fk mx) (by kernel_rfl)).trans (by kernel_rfl)
theorem kInd_nat (mx : Int) (p : List Nat) : NatK (CL mx) (kAt p (kOf (CL mx) 21)) := kAt_nat p (kOf_nat (CL mx) 21)
def kInd_s := And.intro @kInd_0_eq (And.intro @kInd_1_eq (And.intro @kInd_2_eq (And.intro @kInd_3_eq (@kInd_end))))
/- slices.Delete[[]string,string] -/
def kDel_T (v0 v1 v2 v6 v7 v16 : AV) : Tm := (.nd 6 (.nd 1 (.lf 0 v0) (.nd 2 (.lf 1 v1) (.lf 2 v2))) (.nd 7 (.lf 6 v6) (.nd 16 (.lf 7 v7) (.lf 16 v16))))
def kDel_0 (mx : Int) : K := kAt [] (kOf (CL mx) 9)
def kDel_1 (mx : Int) : K := kAt [1, 1, 1, 1, 0] (kOf (CL mx) 9)
def kDel_2 (mx : Int) : K := kAt [1, 1, 1, 1, 1] (kOf (CL mx) 9)
section
set_option maxRecDepth 100000
variable (mx : Int) (run : Run) (lp : Lp) (κn : Kt) (κx : Ex → Kt) (h : AH) (v0 v1 v2 v6 v7 v16 : AV)
theorem kDel_0_eq : kc (CL mx) run lp (kDel_0 mx) ⟨kDel_T v0 v1 v2 v6 v7 v16, h⟩ κn κx = lenS v0 h (fun a0 h => slS 1 v0 (some v1) (some v2) (some a0) h (fun a1 h => cmp ibeq v1 v2 h (fun a2 h => kcIf a2 (κx .ret ⟨kDel_T v0 v1 v2 v0 v7 a2, h⟩) (lenS v0 h (fun a3 h => kc (CL mx) run lp (kDel_1 mx) ⟨kDel_T v0 v1 v2 (.nils) a3 a2, h⟩ (fun s => kc (CL mx) run lp (kDel_2 mx) s κn κx) κx))))) := by kernel_rfl
theorem kDel_1_eq : kc (CL mx) run lp (kDel_1 mx) ⟨kDel_T v0 v1 v2 v6 v7 v16, h⟩ κn κx = slS 1 v0 none (some v1) none h (fun a0 h => slS 1 v0 (some v2) none none h (fun a1 h => appA 10 1 16 a0 a1 h (fun a2 h1 => bq (Nat.ble (flen h) (flen h1)) ((fun h => κn ⟨kDel_T a2 v1 v2 v6 v7 v16, h⟩) h1) none))) := (plain_kc (C := CL mx) (ops := opsOf (cAt [1, 1, 1, 1, 0] (codeOf (CL mx) 9))) (ps := [0, 1, 2, 6, 7, 16]) (by kernel_rfl) (by kernel_rfl) _ _ _).trans (by kernel_rfl)
theorem kDel_2_eq : kc (CL mx) run lp (kDel_2 mx) ⟨kDel_T v0 v1 v2 v6 v7 v16, h⟩ κn κx = lenS v0 h (fun a0 h => slS 1 v0 (some a0) (some v7) none h (fun a1 h => clrA 1 [.str []] a1 h (fun a2 h => κx .ret ⟨kDel_T v0 v1 v2 v0 v7 v16, h⟩))) := by kernel_rfl
theorem kDel_end : kcE (CL mx) [.tmp 6] ⟨kDel_T v0 v1 v2 v6 v7 v16, h⟩ = some (.vh v6 h) := (kcE_eq _ _ _).trans (by kernel_rfl)
theorem kDel_fk : fkAt (CL mx) 9 = some ⟨kDel_0 mx, [0, 1, 2, 6, 7, 16], 33, [.tmp 6]⟩ := by kernel_rfl
end
theorem kDel_run (mx : Int) (run : Run) (lp : Lp) (x0 x1 x2 : AV) (h : AH) : runF (CL mx) run lp 9 [x0, x1, x2] h = vhO (kc (CL mx) run lp (kDel_0 mx) ⟨kDel_T x0 x1 x2 .bot .bot .bot, h⟩ (kcE (CL mx) [.tmp 6]) (kcQ (CL mx) [.tmp 6])) := (run_kc (by kernel_rfl) (kDel_fk mx) (by kernel_rfl)).trans (by kernel_rfl)
theorem kDel_nat (mx : Int) (p : List Nat) : NatK (CL mx) (kAt p (kOf (CL mx) 9)) := kAt_nat p (kOf_nat (CL mx) 9)
def kDel_s := And.intro @kDel_0_eq (And.intro @kDel_1_eq (And.intro @kDel_2_eq (@kDel_end)))
/- slices.Equal[[]string,string] -/
def kEqu_T (v0 v1 v4 v5 v10 v12 v13 v14 v24 : AV) : Tm := (.nd 10 (.nd 4 (.nd 1 (.lf 0 v0) (.lf 1 v1)) (.nd 5 (.lf 4 v4) (.lf 5 v5))) (.nd 13 (.nd 12 (.lf 10 v10) (.lf 12 v12)) (.nd 14 (.lf 13 v13) (.nd 24 (.lf 14 v14) (.lf 24 v24)))))
def kEqu_0 (mx : Int) : K := kAt [] (kOf (CL mx) 10)
def kEqu_1 (mx : Int) : K := kAt [1, 1, 0] (kOf (CL mx) 10)
def kEqu_2 (mx : Int) : K := kAt [1, 1, 1] (kOf (CL mx) 10)
def kEqu_3 (mx : Int) : K := kAt [1, 1, 0, 1, 0, 0] (kOf (CL mx) 10)
def kEqu_4 (mx : Int) : K := kAt [1, 1, 0, 1, 0, 0, 1, 1, 0] (kOf (CL mx) 10)
def kEqu_5 (mx : Int) : K := kAt [1, 1, 0, 1, 0, 0, 1, 1, 1] (kOf (CL mx) 10)
def kEqu_6 (mx : Int) : K := kAt [1, 1, 0, 1, 0, 0, 1, 1, 0, 0, 1, 0] (kOf (CL mx) 10)
def kEqu_7 (mx : Int) : K := kAt [1, 1, 0, 1, 0, 0, 1, 1, 0, 0, 1, 1] (kOf (CL mx) 10)
section
set_option maxRecDepth 100000
variable (mx : Int) (run : Run) (lp : Lp) (κn : Kt) (κx : Ex → Kt) (h : AH) (v0 v1 v4 v5 v10 v12 v13 v14 v24 : AV)
theorem kEqu_0_eq : kc (CL mx) run lp (kEqu_0 mx) ⟨kEqu_T v0 v1 v4 v5 v10 v12 v13 v14 v24, h⟩ κn κx = lenS v0 h (fun a0 h => lenS v1 h (fun a1 h => cmp ine a0 a1 h (fun a2 h => kcIf a2 (κx .ret ⟨kEqu_T v0 v1 (.bool false) v5 a2 v12 v13 v14 v24, h⟩) (kc (CL mx) run lp (kEqu_1 mx) ⟨kEqu_T v0 v1 (.bool false) v5 a2 v12 v13 v14 v24, h⟩ (fun s => kc (CL mx) run lp (kEqu_2 mx) s κn κx) κx)))) := by kernel_rfl
theorem kEqu_1_eq : kc (CL mx) run lp (kEqu_1 mx) ⟨kEqu_T v0 v1 v4 v5 v10 v12 v13 v14 v24, h⟩ κn κx = lenS v0 h (fun a0 h => kcR κn (kcO 0 κn κx) (lp (kEqu_3 mx) ⟨kEqu_T v0 v1 v4 v5 v10 a0 (.int 9223372036854775807 0) v14 v24, h⟩)) := by kernel_rfl
theorem kEqu_2_eq : kc (CL mx) run lp (kEqu_2 mx) ⟨kEqu_T v0 v1 v4 v5 v10 v12 v13 v14 v24, h⟩ κn κx = κx .ret ⟨kEqu_T v0 v1 (.bool true) v5 v10 v12 v13 v14 v24, h⟩ := by kernel_rfl
theorem kEqu_3_eq : kc (CL mx) run lp (kEqu_3 mx) ⟨kEqu_T v0 v1 v4 v5 v10 v12 v13 v14 v24, h⟩ κn κx = cmp ilt v13 v12 h (fun a0 h => kcIf a0 (kc (CL mx) run lp (kEqu_4 mx) ⟨kEqu_T v0 v1 v4 v5 v10 v12 v13 a0 v24, h⟩ (fun s => kc (CL mx) run lp (kEqu_5 mx) s κn κx) κx) (κx (.exit 0) ⟨kEqu_T v0 v1 v4 v5 v10 v12 v13 a0 v24, h⟩)) := by kernel_rfl
theorem kEqu_4_eq : kc (CL mx) run lp (kEqu_4 mx) ⟨kEqu_T v0 v1 v4 v5 v10 v12 v13 v14 v24, h⟩ κn κx = kc (CL mx) run lp (kEqu_6 mx) ⟨kEqu_T v0 v1 v4 v13 v10 v12 v13 v14 v24, h⟩ (fun s => kc (CL mx) run lp (kEqu_7 mx) s κn (kcO 1 κn κx)) (kcO 1 κn κx) := by kernel_rfl
theorem kEqu_5_eq : kc (CL mx) run lp (kEqu_5 mx) ⟨kEqu_T v0 v1 v4 v5 v10 v12 v13 v14 v24, h⟩ κn κx = arith iadd v13 (.int 9223372036854775807 1) h (fun a0 h => κn ⟨kEqu_T v0 v1 v4 v5 v10 v12 a0 v14 v24, h⟩) := by kernel_rfl
theorem kEqu_6_eq : kc (CL mx) run lp (kEqu_6 mx) ⟨kEqu_T v0 v1 v4 v5 v10 v12 v13 v14 v24, h⟩ κn κx = idxS 1 v0 v5 h (fun a0 h => load1 a0 h (fun a1 h => idxS 1 v1 v5 h (fun a2 h => load1 a2 h (fun a3 h => strCmp neS a1 a3 h (fun a4 h => κn ⟨kEqu_T v0 v1 v4 v5 v10 v12 v13 v14 a4, h⟩))))) := (plain_kc (C := CL mx) (ops := opsOf (cAt [1, 1, 0, 1, 0, 0, 1, 1, 0, 0, 1, 0] (codeOf (CL mx) 10))) (ps := [0, 1, 4, 5, 10, 12, 13, 14, 24]) (by kernel_rfl) (by kernel_rfl) _ _ _).trans (by kernel_rfl)
theorem kEqu_7_eq : kc (CL mx) run lp (kEqu_7 mx) ⟨kEqu_T v0 v1 v4 v5 v10 v12 v13 v14 v24, h⟩ κn κx = kcIf v24 (κx .ret ⟨kEqu_T v0 v1 (.bool false) v5 v10 v12 v13 v14 v24, h⟩) (κn ⟨kEqu_T v0 v1 v4 v5 v10 v12 v13 v14 v24, h⟩) := by kernel_rfl
theorem kEqu_end : kcE (CL mx) [.tmp 4] ⟨kEqu_T v0 v1 v4 v5 v10 v12 v13 v14 v24, h⟩ = some (.vh v4 h) := (kcE_eq _ _ _).trans (by kernel_rfl)
theorem kEqu_fk : fkAt (CL mx) 10 = some ⟨kEqu_0 mx, [0, 1, 4, 5, 10, 12, 13, 14, 24], 26, [.tmp 4]⟩ := by kernel_rfl
end
theorem kEqu_run (mx : Int) (run : Run) (lp : Lp) (x0 x1 : AV) (h : AH) : runF (CL mx) run lp 10 [x0, x1] h = vhO (kc (CL mx) run lp (kEqu_0 mx) ⟨kEqu_T x0 x1 .bot .bot .bot .bot .bot .bot .bot, h⟩ (kcE (CL mx) [.tmp 4]) (kcQ (CL mx) [.tmp 4])) := (run_kc (by kernel_rfl) (kEqu_fk mx) (by kernel_rfl)).trans (by kernel_rfl)
theorem kEqu_nat (mx : Int) (p : List Nat) : NatK (CL mx) (kAt p (kOf (CL mx) 10)) := kAt_nat p (kOf_nat (CL mx) 10)
def kEqu_s := And.intro @kEqu_0_eq (And.intro @kEqu_1_eq (And.intro @kEqu_2_eq (And.intro @kEqu_3_eq (And.intro @kEqu_4_eq (And.intro @kEqu_5_eq (And.intro @kEqu_6_eq (And.intro @kEqu_7_eq (@kEqu_end))))))))
/- slices.DeleteFunc[[]string,string] -/
def kDlf_T (v0 v1 v4 v5 v6 v7 v12 v19 v29 : AV) : Tm := (.nd 6 (.nd 4 (.nd 1 (.lf 0 v0) (.lf 1 v1)) (.nd 5 (.lf 4 v4) (.lf 5 v5))) (.nd 12 (.nd 7 (.lf 6 v6) (.lf 7 v7)) (.nd 19 (.lf 12 v12) (.nd 29 (.lf 19 v19) (.lf 29 v29)))))
def kDlf_0 (mx : Int) : K := kAt [] (kOf (CL mx) 22)
def kDlf_1 (mx : Int) : K := kAt [1, 1, 1, 0] (kOf (CL mx) 22)
def kDlf_2 (mx : Int) : K := kAt [1, 1, 1, 1] (kOf (CL mx) 22)
def kDlf_3 (mx : Int) : K := kAt [1, 1, 1, 0, 1, 0, 0] (kOf (CL mx) 22)
def kDlf_4 (mx : Int) : K := kAt [1, 1, 1, 0, 1, 0, 0, 1, 0] (kOf (CL mx) 22)
def kDlf_5 (mx : Int) : K := kAt [1, 1, 1, 0, 1, 0, 0, 1, 1] (kOf (CL mx) 22)
section
set_option maxRecDepth 100000
variable (mx : Int) (run : Run) (lp : Lp) (κn : Kt) (κx : Ex → Kt) (h : AH) (v0 v1 v4 v5 v6 v7 v12 v19 v29 : AV)
theorem kDlf_0_eq : kc (CL mx) run lp (kDlf_0 mx) ⟨kDlf_T v0 v1 v4 v5 v6 v7 v12 v19 v29, h⟩ κn κx = withX (fun a0 h => cmp ibeq a0 (.int 9223372036854775807 (-1)) h (fun a1 h => kcIf a1 (κx .ret ⟨kDlf_T v0 v1 v0 a0 v6 v7 a1 v19 v29, h⟩) (kc (CL mx) run lp (kDlf_1 mx) ⟨kDlf_T v0 v1 (.nils) a0 v6 v7 a1 v19 v29, h⟩ (fun s => kc (CL mx) run lp (kDlf_2 mx) s κn κx) κx))) (callA (CL mx) run 33 [v0, v1] h) := by kernel_rfl
theorem kDlf_1_eq : kc (CL mx) run lp (kDlf_1 mx) ⟨kDlf_T v0 v1 v4 v5 v6 v7 v12 v19 v29, h⟩ κn κx = arith iadd v5 (.int 9223372036854775807 1) h (fun a0 h => kcR κn (kcO 0 κn κx) (lp (kDlf_3 mx) ⟨kDlf_T v0 v1 v4 v5 a0 v7 v12 v19 v29, h⟩)) := by kernel_rfl
theorem kDlf_2_eq : kc (CL mx) run lp (kDlf_2 mx) ⟨kDlf_T v0 v1 v4 v5 v6 v7 v12 v19 v29, h⟩ κn κx = slS 1 v0 (some v5) none none h (fun a0 h => clrA 1 [.str []] a0 h (fun a1 h => slS 1 v0 none (some v5) none h (fun a2 h => κx .ret ⟨kDlf_T v0 v1 a2 v5 v6 v7 v12 v19 v29, h⟩))) := by kernel_rfl
theorem kDlf_3_eq : kc (CL mx) run lp (kDlf_3 mx) ⟨kDlf_T v0 v1 v4 v5 v6 v7 v12 v19 v29, h⟩ κn κx = lenS v0 h (fun a0 h => cmp ilt v6 a0 h (fun a1 h => kcIf a1 (kc (CL mx) run lp (kDlf_4 mx) ⟨kDlf_T v0 v1 v4 v5 v6 v7 v12 a1 v29, h⟩ (fun s => kc (CL mx) run lp (kDlf_5 mx) s κn κx) κx) (κx (.exit 0) ⟨kDlf_T v0 v1 v4 v5 v6 v7 v12 a1 v29, h⟩))) := by kernel_rfl
theorem kDlf_4_eq : kc (CL mx) run lp (kDlf_4 mx) ⟨kDlf_T v0 v1 v4 v5 v6 v7 v12 v19 v29, h⟩ κn κx = idxS 1 v0 v6 h (fun a0 h => load1 a0 h (fun a1 h => avFn v1 (callV (CL mx) run [a1] h (fun a2 h => notA a2 h (fun a3 h => kcIf a3 (idxS 1 v0 v5 h (fun a4 h => store1 a4 a1 h (fun a5 h => arith iadd v5 (.int 9223372036854775807 1) h (fun a6 h => κn ⟨kDlf_T v0 v1 v4 a6 v6 a1 v12 v19 a3, h⟩)))) (κn ⟨kDlf_T v0 v1 v4 v5 v6 a1 v12 v19 a3, h⟩)))))) := by kernel_rfl
theorem kDlf_5_eq : kc (CL mx) run lp (kDlf_5 mx) ⟨kDlf_T v0 v1 v4 v5 v6 v7 v12 v19 v29, h⟩ κn κx = arith iadd v6 (.int 9223372036854775807 1) h (fun a0 h => κn ⟨kDlf_T v0 v1 v4 v5 a0 v7 v12 v19 v29, h⟩) := by kernel_rfl
theorem kDlf_end : kcE (CL mx) [.tmp 4] ⟨kDlf_T v0 v1 v4 v5 v6 v7 v12 v19 v29, h⟩ = some (.vh v4 h) := (kcE_eq _ _ _).trans (by kernel_rfl)
theorem kDlf_fk : fkAt (CL mx) 22 = some ⟨kDlf_0 mx, [0, 1, 4, 5, 6, 7, 12, 19, 29], 42, [.tmp 4]⟩ := by kernel_rfl
end
theorem kDlf_run (mx : Int) (run : Run) (lp : Lp) (x0 x1 : AV) (h : AH) : runF (CL mx) run lp 22 [x0, x1] h = vhO (kc (CL mx) run lp (kDlf_0 mx) ⟨kDlf_T x0 x1 .bot .bot .bot .bot .bot .bot .bot, h⟩ (kcE (CL mx) [.tmp 4]) (kcQ (CL mx) [.tmp 4])) := (run_kc (by kernel_rfl) (kDlf_fk mx) (by kernel_rfl)).trans (by kernel_rfl)
theorem kDlf_nat (mx : Int) (p : List Nat) : NatK (CL mx) (kAt p (kOf (CL mx) 22)) := kAt_nat p (kOf_nat (CL mx) 22)
def kDlf_s := And.intro @kDlf_0_eq (And.intro @kDlf_1_eq (And.intro @kDlf_2_eq (And.intro @kDlf_3_eq (And.intro @kDlf_4_eq (And.intro @kDlf_5_eq (@kDlf_end))))))
/- slices.Clone[[]string,string] -/
def kClo_T (v0 v2 v4 : AV) : Tm := (.nd 2 (.lf 0 v0) (.nd 4 (.lf 2 v2) (.lf 4 v4)))
def kClo_0 (mx : Int) : K := kAt [] (kOf (CL mx) 23)
section
set_option maxRecDepth 100000
variable (mx : Int) (run : Run) (lp : Lp) (κn : Kt) (κx : Ex → Kt) (h : AH) (v0 v2 v4 : AV)
theorem kClo_0_eq : kc (CL mx) run lp (kClo_0 mx) ⟨kClo_T v0 v2 v4, h⟩ κn κx = eqlA ⟨(.slice 9), 1, 24, [.nils], false, false⟩ v0 (.nils) h (fun a0 h => kcIf a0 (κx .ret ⟨kClo_T v0 (.nils) a0, h⟩) (bldS 1 0 [.str []] [] h (fun a1 h => appA 10 1 16 a1 v0 h (fun a2 h => κx .ret ⟨kClo_T v0 a2 a0, h⟩)))) := by kernel_rfl
theorem kClo_end : kcE (CL mx) [.tmp 2] ⟨kClo_T v0 v2 v4, h⟩ = some (.vh v2 h) := (kcE_eq _ _ _).trans (by kernel_rfl)
theorem kClo_fk : fkAt (CL mx) 23 = some ⟨kClo_0 mx, [0, 2, 4], 8, [.tmp 2]⟩ := by kernel_rfl
end
theorem kClo_run (mx : Int) (run : Run) (lp : Lp) (x0 : AV) (h : AH) : runF (CL mx) run lp 23 [x0] h = vhO (kc (CL mx) run lp (kClo_0 mx) ⟨kClo_T x0 .bot .bot, h⟩ (kcE (CL mx) [.tmp 2]) (kcQ (CL mx) [.tmp 2])) := (run_kc (by kernel_rfl) (kClo_fk mx) (by kernel_rfl)).trans (by kernel_rfl)
theorem kClo_nat (mx : Int) (p : List Nat) : NatK (CL mx) (kAt p (kOf (CL mx) 23)) := kAt_nat p (kOf_nat (CL mx) 23)
def kClo_s := And.intro @kClo_0_eq (@kClo_end)
/- slices.IndexFunc[[]string,string] -/
def kIxf_T (v0 v1 v4 v5 v7 v8 v9 v16 : AV) : Tm := (.nd 7 (.nd 4 (.nd 1 (.lf 0 v0) (.lf 1 v1)) (.nd 5 (.lf 4 v4) (.lf 5 v5))) (.nd 9 (.nd 8 (.lf 7 v7) (.lf 8 v8)) (.nd 16 (.lf 9 v9) (.lf 16 v16))))
def kIxf_0 (mx : Int) : K := kAt [] (kOf (CL mx) 33)
def kIxf_1 (mx : Int) : K := kAt [1, 0] (kOf (CL mx) 33)
def kIxf_2 (mx : Int) : K := kAt [1, 1] (kOf (CL mx) 33)
def kIxf_3 (mx : Int) : K := kAt [1, 0, 1, 0, 0] (kOf (CL mx) 33)
section
set_option maxRecDepth 100000
variable (mx : Int) (run : Run) (lp : Lp) (κn : Kt) (κx : Ex → Kt) (h : AH) (v0 v1 v4 v5 v7 v8 v9 v16 : AV)
theorem kIxf_0_eq : kc (CL mx) run lp (kIxf_0 mx) ⟨kIxf_T v0 v1 v4 v5 v7 v8 v9 v16, h⟩ κn κx = kc (CL mx) run lp (kIxf_1 mx) ⟨kIxf_T v0 v1 (.int 9223372036854775807 0) v5 v7 v8 v9 v16, h⟩ (fun s => kc (CL mx) run lp (kIxf_2 mx) s κn κx) κx := by kernel_rfl
theorem kIxf_1_eq : kc (CL mx) run lp (kIxf_1 mx) ⟨kIxf_T v0 v1 v4 v5 v7 v8 v9 v16, h⟩ κn κx = lenS v0 h (fun a0 h => kcR κn (kcO 0 κn κx) (lp (kIxf_3 mx) ⟨kIxf_T v0 v1 v4 v5 a0 (.int 9223372036854775807 0) v9 v16, h⟩)) := by kernel_rfl
theorem kIxf_2_eq : kc (CL mx) run lp (kIxf_2 mx) ⟨kIxf_T v0 v1 v4 v5 v7 v8 v9 v16, h⟩ κn κx = κx .ret ⟨kIxf_T v0 v1 (.int 9223372036854775807 (-1)) v5 v7 v8 v9 v16, h⟩ := by kernel_rfl
theorem kIxf_3_eq : kc (CL mx) run lp (kIxf_3 mx) ⟨kIxf_T v0 v1 v4 v5 v7 v8 v9 v16, h⟩ κn κx = cmp ilt v8 v7 h (fun a0 h => kcIf a0 (idxS 1 v0 v8 h (fun a1 h => load1 a1 h (fun a2 h => avFn v1 (callV (CL mx) run [a2] h (fun a3 h => kcIf a3 (κx .ret ⟨kIxf_T v0 v1 v8 v8 v7 v8 a0 a3, h⟩) (arith iadd v8 (.int 9223372036854775807 1) h (fun a4 h => κn ⟨kIxf_T v0 v1 v4 v8 v7 a4 a0 a3, h⟩))))))) (κx (.exit 0) ⟨kIxf_T v0 v1 v4 v5 v7 v8 a0 v16, h⟩)) := by kernel_rfl
theorem kIxf_end : kcE (CL mx) [.tmp 4] ⟨kIxf_T v0 v1 v4 v5 v7 v8 v9 v16, h⟩ = some (.vh v4 h) := (kcE_eq _ _ _).trans (by kernel_rfl)
theorem kIxf_fk : fkAt (CL mx) 33 = some ⟨kIxf_0 mx, [0, 1, 4, 5, 7, 8, 9, 16], 19, [.tmp 4]⟩ := by kernel_rfl
end
theorem kIxf_run (mx : Int) (run : Run) (lp : Lp) (x0 x1 : AV) (h : AH) : runF (CL mx) run lp 33 [x0, x1] h = vhO (kc (CL mx) run lp (kIxf_0 mx) ⟨kIxf_T x0 x1 .bot .bot .bot .bot .bot .bot, h⟩ (kcE (CL mx) [.tmp 4]) (kcQ (CL mx) [.tmp 4])) := (run_kc (by kernel_rfl) (kIxf_fk mx) (by kernel_rfl)).trans (by kernel_rfl)
theorem kIxf_nat (mx : Int) (p : List Nat) : NatK (CL mx) (kAt p (kOf (CL mx) 33)) := kAt_nat p (kOf_nat (CL mx) 33)
def kIxf_s := And.intro @kIxf_0_eq (And.intro @kIxf_1_eq (And.intro @kIxf_2_eq (And.intro @kIxf_3_eq (@kIxf_end))))
/- (*guipure/shelf.Shelf).Drop$1 -/
def kKey_T (v0 v1 v3 : AV) : Tm := (.nd 1 (.lf 0 v0) (.nd 3 (.lf 1 v1) (.lf 3 v3)))
def kKey_0 (mx : Int) : K := kAt [] (kOf (CL mx) 24)
section
set_option maxRecDepth 100000
variable (mx : Int) (run : Run) (lp : Lp) (κn : Kt) (κx : Ex → Kt) (h : AH) (v0 v1 v3 : AV)
theorem kKey_0_eq : kc (CL mx) run lp (kKey_0 mx) ⟨kKey_T v0 v1 v3, h⟩ κn κx = load1 v1 h (fun a0 h => strCmp eqS v0 a0 h (fun a1 h => κx .ret ⟨kKey_T v0 v1 a1, h⟩)) := by kernel_rfl
theorem kKey_end : kcE (CL mx) [.tmp 3] ⟨kKey_T v0 v1 v3, h⟩ = some (.vh v3 h) := (kcE_eq _ _ _).trans (by kernel_rfl)
theorem kKey_fk : fkAt (CL mx) 24 = some ⟨kKey_0 mx, [0, 1, 3], 7, [.tmp 3]⟩ := by kernel_rfl
end
theorem kKey_run (mx : Int) (run : Run) (lp : Lp) (x0 x1 : AV) (h : AH) : runF (CL mx) run lp 24 [x0, x1] h = vhO (kc (CL mx) run lp (kKey_0 mx) ⟨kKey_T x0 x1 .bot, h⟩ (kcE (CL mx) [.tmp 3]) (kcQ (CL mx) [.tmp 3])) := (run_kc (by kernel_rfl) (kKey_fk mx) (by kernel_rfl)).trans (by kernel_rfl)
theorem kKey_nat (mx : Int) (p : List Nat) : NatK (CL mx) (kAt p (kOf (CL mx) 24)) := kAt_nat p (kOf_nat (CL mx) 24)
def kKey_s := And.intro @kKey_0_eq (@kKey_end)
end
theorem cl_ok {mx : Int} : CxOk Tryz.prog (CL mx) := (CxOk.told c0_ok (show MemosOk Tryz.prog (C0 mx) (.lf 4 [([], .bool true)]) from fun p hp => by
  obtain rfl : p = ([], .bool true) := by simpa using hp
  exact ke_head c0_ok)).ownd _
theorem avFn_fn (f : Nat) (a c : List AV) (k : Nat → List AV → List AV → Option Rs) : avFn (.fn f a c) k = k f a c := (rfl)
theorem callV_eq (C : Cx) (run : Run) (args : List AV) (h : AH) (κ : Ka) (f : Nat) (a c : List AV) : callV C run args h κ f a c = withX κ (callA C run f (a ++ (args ++ c)) h) := by unfold callV; rw [fapp_eq, fapp_eq]
theorem eqS_dec (a b : List Nat) : eqS a b = decide (a = b) := by
  by_cases e : a = b
  · subst e; rw [eqS_refl, decide_eq_true rfl]
  · rw [decide_eq_false e, Bool.eq_false_iff]
    exact fun c => e (eqS_nat _ _ c)
theorem neS_dec (a b : List Nat) : neS a b = decide (a ≠ b) := by
  unfold neS
  rw [eqS_dec]
  by_cases e : a = b <;> simp [e]
section
variable {mx : Int} {Q : Option Rs → Prop} {κn : Kt} {κx : Ex → Kt} {v0 : AV} {L : List (List Nat)} {n : List Nat} {h : AH}
theorem ind_loop (h0 : SlAt h v0 (strsA L)) (hb : L.length ≤ 1000000) (v4 : AV) : ∀ (k i f : Nat) (v5 v9 v16 : AV), i + k = L.length → k + 2 ≤ f → (∀ j : Nat, j < i → L[j]? ≠ some n) →
    ((∀ j : Nat, L[j]? ≠ some n) → ∀ v5 v9 v16, Q (κx (.exit 0) ⟨kInd_T v0 (.str n) v4 v5 (.int 9223372036854775807 (L.length : Int)) (.int 9223372036854775807 (L.length : Int)) v9 v16, h⟩)) →
    (∀ i : Nat, L[i]? = some n → ∀ v5 v7 v8 v9 v16, Q (κx .ret ⟨kInd_T v0 (.str n) (.int 9223372036854775807 (i : Int)) v5 v7 v8 v9 v16, h⟩)) →
    Q (kcR κn κx ((rl (CL mx) f).lp (kInd_3 mx) ⟨kInd_T v0 (.str n) v4 v5 (.int 9223372036854775807 (L.length : Int)) (.int 9223372036854775807 (i : Int)) v9 v16, h⟩)) := by
  intro k
  induction k with
  | zero =>
    intro i f v5 v9 v16 hi hf he hk hr
    obtain ⟨f, rfl⟩ := fuel hf
    obtain rfl : i = L.length := by omega
    refine wLoop (kInd_nat mx _) ?_
    simp only [sy, List.length_append, Nat.reduceAdd, Nat.reduceMul, Nat.reduceSub, Nat.reduceLeDiff, Nat.reduceEqDiff, Nat.reduceLT, reduceIte, kInd_s, Int.lt_irrefl]
    refine hk (fun j => ?_) _ _ _
    by_cases hj : j < L.length
    · exact he j hj
    · rw [List.getElem?_eq_none (by omega)]; simp
  | succ k ih =>
    intro i f v5 v9 v16 hi hf he hk hr
    obtain ⟨f, rfl⟩ := fuel hf
    have hlt : i < L.length := by omega
    obtain ⟨x, ex⟩ : ∃ x, L[i]? = some x := ⟨_, List.getElem?_eq_getElem hlt⟩
    obtain ⟨p, _, p2, p3⟩ := h0.idx (strsA_get ex)
    have e1 : decide ((i : Int) < (L.length : Int)) = true := by rw [decide_eq_true_iff]; omega
    have e4 : wrapA 9223372036854775807 ((i : Int) + 1) = ((i + 1 : Nat) : Int) := by rw [wrapA_i64 (by omega) (by omega)]; simp
    refine wLoop (kInd_nat mx _) ?_
    by_cases hx : n = x
    · subst hx
      simp only [sy, List.length_append, Nat.reduceAdd, Nat.reduceMul, Nat.reduceSub, Nat.reduceLeDiff, Nat.reduceEqDiff, Nat.reduceLT, reduceIte, kInd_s, e1, p2, p3, eqS_refl]
      exact hr i ex _ _ _ _ _
    · simp only [sy, List.length_append, Nat.reduceAdd, Nat.reduceMul, Nat.reduceSub, Nat.reduceLeDiff, Nat.reduceEqDiff, Nat.reduceLT, reduceIte, kInd_s, e1, p2, p3, eqS_dec, decide_eq_false hx, e4]
      refine ih (i + 1) (f + k + 2) _ _ _ (by omega) (by omega) (fun j hj => ?_) hk hr
      by_cases hj' : j = i
      · rw [hj', ex]; simp [Ne.symm hx]
      · exact he j (by omega)
theorem ld_row {p : Nat} {cs : List AV} {y j : Nat} {v : AV} (e : hget h p = some (.cells cs y)) (hj : cs[j]? = some v) (κ : Ka) : load1 (.pto p j) h κ = κ v h := by
  rw [load1_o, e, obind_some]
  show obind cs[j]? (fun v => κ v h) = _
  rw [hj]; rfl
theorem st_row {p : Nat} {cs : List AV} {y j : Nat} {v w : AV} (e : hget h p = some (.cells cs y)) (hj : cs[j]? = some w) (hv : v.plain = true) (κ : Ka) : store1 (.pto p j) v h κ = κ (.tup []) (h.set p (some (.cells (cs.set j v) y))) := by
  rw [store1_o, hv, e]
  show obind cs[j]? (fun _ => κ (.tup []) (h.set p (some (.cells (cs.set j v) y)))) = _
  rw [hj]; rfl
theorem con_gives (h0 : SlAt h v0 (strsA L)) (hb : L.length ≤ 1000000) (f : Nat) (hf : L.length + 5 ≤ f) : Gives (fun r h' => r = .bool (decide (n ∈ L)) ∧ h' = h) ((rl (CL mx) f).run 7 [v0, .str n] h) := by
  obtain ⟨f, rfl⟩ := fuel hf
  refine Gives.runs (n := f + L.length + 4) (kCon_run mx _ _ _ _ _) ?_
  have l0 := fun κ => h0.lenS h κ
  rw [strsA_len] at l0
  have g : Gives (fun r h' => ∃ i : Int, r = .int 9223372036854775807 i ∧ decide (0 ≤ i) = decide (n ∈ L) ∧ h' = h) ((rl (CL mx) (f + L.length + 4)).run 21 [v0, .str n] h) := by
    refine Gives.runs (n := f + L.length + 3) (kInd_run mx _ _ _ _ _) ?_
    simp only [sy, List.length_append, Nat.reduceAdd, Nat.reduceMul, Nat.reduceSub, Nat.reduceLeDiff, Nat.reduceEqDiff, Nat.reduceLT, reduceIte, kInd_s, l0]
    refine ind_loop h0 hb _ L.length 0 _ _ _ _ (by omega) (by omega) (fun j hj => by omega) (fun hn v5 v9 v16 => ?_) (fun i hi v5 v7 v8 v9 v16 => ?_)
    · simp only [sy, List.length_append, Nat.reduceAdd, Nat.reduceMul, Nat.reduceSub, Nat.reduceLeDiff, Nat.reduceEqDiff, Nat.reduceLT, reduceIte, kInd_s]
      refine Ends.mk ⟨-1, rfl, ?_, rfl⟩
      have : n ∉ L := fun c => by
        obtain ⟨j, hj⟩ := List.getElem?_of_mem c
        exact hn j hj
      rw [decide_eq_false this]; rfl
    · simp only [sy, List.length_append, Nat.reduceAdd, Nat.reduceMul, Nat.reduceSub, Nat.reduceLeDiff, Nat.reduceEqDiff, Nat.reduceLT, reduceIte, kInd_s]
      refine Ends.mk ⟨i, rfl, ?_, rfl⟩
      rw [decide_eq_true (List.mem_of_getElem? hi), decide_eq_true_iff]; omega
  simp only [sy, List.length_append, Nat.reduceAdd, Nat.reduceMul, Nat.reduceSub, Nat.reduceLeDiff, Nat.reduceEqDiff, Nat.reduceLT, reduceIte, kCon_s]
  refine wCall g.call ?_
  rintro r h' ⟨i, rfl, hi, rfl⟩
  simp only [sy, List.length_append, Nat.reduceAdd, Nat.reduceMul, Nat.reduceSub, Nat.reduceLeDiff, Nat.reduceEqDiff, Nat.reduceLT, reduceIte, kCon_s, hi]
  exact Ends.mk ⟨rfl, rfl⟩
theorem equ_loop {v1 v4 v10 : AV} {M : List (List Nat)} (h0 : SlAt h v0 (strsA L)) (h1 : SlAt h v1 (strsA M)) (hl : L.length = M.length) (hb : L.length ≤ 1000000) : ∀ (k i f : Nat) (v5 v14 v24 : AV), i + k = L.length → k + 2 ≤ f → (∀ j, j < i → L[j]? = M[j]?) →
    (L = M → ∀ v5 v14 v24, Q (κx (.exit 0) ⟨kEqu_T v0 v1 v4 v5 v10 (.int 9223372036854775807 (L.length : Int)) (.int 9223372036854775807 (L.length : Int)) v14 v24, h⟩)) →
    (L ≠ M → ∀ v5 v13 v14 v24, Q (κx .ret ⟨kEqu_T v0 v1 (.bool false) v5 v10 (.int 9223372036854775807 (L.length : Int)) v13 v14 v24, h⟩)) →
    Q (kcR κn κx ((rl (CL mx) f).lp (kEqu_3 mx) ⟨kEqu_T v0 v1 v4 v5 v10 (.int 9223372036854775807 (L.length : Int)) (.int 9223372036854775807 (i : Int)) v14 v24, h⟩)) := by
  intro k
  induction k with
  | zero =>
    intro i f v5 v14 v24 hi hf he hk hr
    obtain ⟨f, rfl⟩ := fuel hf
    obtain rfl : i = L.length := by omega
    refine wLoop (kEqu_nat mx _) ?_
    simp only [sy, List.length_append, Nat.reduceAdd, Nat.reduceMul, Nat.reduceSub, Nat.reduceLeDiff, Nat.reduceEqDiff, Nat.reduceLT, reduceIte, kEqu_s, Int.lt_irrefl]
    refine hk (List.ext_getElem? fun j => ?_) _ _ _
    by_cases hj : j < L.length
    · exact he j hj
    · rw [List.getElem?_eq_none (by omega), List.getElem?_eq_none (by omega)]
  | succ k ih =>
    intro i f v5 v14 v24 hi hf he hk hr
    obtain ⟨f, rfl⟩ := fuel hf
    have hlt : i < L.length := by omega
    obtain ⟨x, ex⟩ : ∃ x, L[i]? = some x := ⟨_, List.getElem?_eq_getElem hlt⟩
    obtain ⟨y, ey⟩ : ∃ y, M[i]? = some y := ⟨_, List.getElem?_eq_getElem (by omega)⟩
    obtain ⟨p, _, p2, p3⟩ := h0.idx (strsA_get ex)
    obtain ⟨q, _, q2, q3⟩ := h1.idx (strsA_get ey)
    have e1 : decide ((i : Int) < (L.length : Int)) = true := by rw [decide_eq_true_iff]; omega
    have e4 : wrapA 9223372036854775807 ((i : Int) + 1) = ((i + 1 : Nat) : Int) := by rw [wrapA_i64 (by omega) (by omega)]; simp
    refine wLoop (kEqu_nat mx _) ?_
    by_cases hxy : x = y
    · subst hxy
      have e2 : neS x x = false := by unfold neS; rw [eqS_refl]; rfl
      simp only [sy, List.length_append, Nat.reduceAdd, Nat.reduceMul, Nat.reduceSub, Nat.reduceLeDiff, Nat.reduceEqDiff, Nat.reduceLT, reduceIte, kEqu_s, e1, p2, p3, q2, q3, e2, e4]
      refine ih (i + 1) (f + k + 2) _ _ _ (by omega) (by omega) (fun j hj => ?_) hk hr
      by_cases hj' : j = i
      · rw [hj', ex, ey]
      · exact he j (by omega)
    · have e2 : neS x y = true := by rw [neS_dec]; simp [hxy]
      simp only [sy, List.length_append, Nat.reduceAdd, Nat.reduceMul, Nat.reduceSub, Nat.reduceLeDiff, Nat.reduceEqDiff, Nat.reduceLT, reduceIte, kEqu_s, e1, p2, p3, q2, q3, e2]
      exact hr (fun c => hxy (by rw [c, ey] at ex; exact (Option.some.inj ex).symm)) _ _ _ _
theorem equ_gives {v1 : AV} {M : List (List Nat)} (h0 : SlAt h v0 (strsA L)) (h1 : SlAt h v1 (strsA M)) (hb : L.length ≤ 1000000) (f : Nat) (hf : L.length + 3 ≤ f) :
    Gives (fun r h' => r = .bool (decide (L = M)) ∧ h' = h) ((rl (CL mx) f).run 10 [v0, v1] h) := by
  obtain ⟨f, rfl⟩ := fuel hf
  refine Gives.runs (n := f + L.length + 2) (kEqu_run mx _ _ _ _ _) ?_
  have l0 := fun κ => h0.lenS h κ
  have l1 := fun κ => h1.lenS h κ
  rw [strsA_len] at l0 l1
  by_cases hl : (L.length : Int) = (M.length : Int)
  · simp only [sy, List.length_append, Nat.reduceAdd, Nat.reduceMul, Nat.reduceSub, Nat.reduceLeDiff, Nat.reduceEqDiff, Nat.reduceLT, reduceIte, kEqu_s, l0, l1, hl, ne_eq, not_true_eq_false]
    have hl : L.length = M.length := by omega
    rw [← hl]
    refine equ_loop h0 h1 hl hb L.length 0 _ _ _ _ (by omega) (by omega) (fun j hj => by omega) (fun e v5 v14 v24 => ?_) (fun e v5 v13 v14 v24 => ?_)
    · simp only [sy, List.length_append, Nat.reduceAdd, Nat.reduceMul, Nat.reduceSub, Nat.reduceLeDiff, Nat.reduceEqDiff, Nat.reduceLT, reduceIte, kEqu_s]
      exact Ends.mk ⟨by rw [decide_eq_true e], rfl⟩
    · simp only [sy, List.length_append, Nat.reduceAdd, Nat.reduceMul, Nat.reduceSub, Nat.reduceLeDiff, Nat.reduceEqDiff, Nat.reduceLT, reduceIte, kEqu_s]
      exact Ends.mk ⟨by rw [decide_eq_false e], rfl⟩
  · simp only [sy, List.length_append, Nat.reduceAdd, Nat.reduceMul, Nat.reduceSub, Nat.reduceLeDiff, Nat.reduceEqDiff, Nat.reduceLT, reduceIte, kEqu_s, l0, l1, ne_eq, hl, not_false_eq_true]
    exact Ends.mk ⟨by rw [decide_eq_false]; intro c; rw [c] at hl; exact hl rfl, rfl⟩
theorem eqA_nils_o (ti : TI) (hk : ∃ e, ti.kind = .slice e) (b o l c z : Nat) (e : Bool) : eqA ti (.slo b o l c z e) .nils = some false := by
  obtain ⟨e', hk⟩ := hk
  unfold eqA; rw [hk]
theorem clo_gives {S : Nat → Prop} (h0 : Ow1 h S v0 (strsA L)) (hb : L.length ≤ 100000) (f : Nat) :
    Gives (fun r h' => Ow1 h' (fun b => h.length ≤ b) r (strsA L) ∧ Fr h.length h h') ((rl (CL mx) (f + 1)).run 23 [v0] h) := by
  refine Gives.runs (n := f) (kClo_run mx _ _ _ _) ?_
  rcases id h0 with ⟨e0, rfl⟩ | ⟨b, cap, e, junk, y, hs, rfl, hbk, hl⟩
  · have e1 : ∀ κ : Ka, eqlA ⟨(.slice 9), 1, 24, [.nils], false, false⟩ .nils .nils h κ = κ (.bool true) h := fun κ => rfl
    simp only [sy, List.length_append, Nat.reduceAdd, Nat.reduceMul, Nat.reduceSub, Nat.reduceLeDiff, Nat.reduceEqDiff, Nat.reduceLT, reduceIte, kClo_s, e1]
    exact Ends.mk ⟨.inl ⟨e0, rfl⟩, Fr.refl _ _⟩
  · have e1 : ∀ κ : Ka, eqlA ⟨(.slice 9), 1, 24, [.nils], false, false⟩ (.slo b 0 (strsA L).length cap 1 e) .nils h κ = κ (.bool false) h := fun κ => rfl
    have h1 : SlAt (h ++ [some (.cells [] 0)]) (.slo b 0 (strsA L).length cap 1 e) (strsA L) := SlAt.up h0.at (Fr.push (Nat.le_refl _) _)
    obtain ⟨b', y', e', h', e2, e3, e4, e5, e6⟩ := appA_at (h := h ++ [some (.cells [] 0)]) (b := h.length) (cs := []) (y := 0) (e := true) (by_ := 16) (9 + 1) (by decide) (hget_top _ _) h1 (strsA_plains L) (by rw [strsA_len]; simpa using Nat.le_trans hb (by decide))
    simp only [sy, List.length_append, Nat.reduceAdd, Nat.reduceMul, Nat.reduceSub, Nat.reduceLeDiff, Nat.reduceEqDiff, Nat.reduceLT, reduceIte, kClo_s, e1, bldS_0]
    refine wEq (e2 _) ?_
    simp only [sy, List.length_append, Nat.reduceAdd, Nat.reduceMul, Nat.reduceSub, Nat.reduceLeDiff, Nat.reduceEqDiff, Nat.reduceLT, reduceIte, kClo_s]
    have hlb : h.length ≤ b' := by
      rcases e6 with rfl | e6
      · exact Nat.le_refl _
      · rw [List.length_append] at e6; omega
    refine Ends.mk ⟨.inr ⟨b', (strsA L).length, e', [], y', hlb, by simp, by simpa using e3, by simp⟩, by rw [List.length_append] at e4; simp at e4; omega, fun i hi => ?_⟩
    rw [e5 i (by omega) (by rw [List.length_append]; omega), hget_old hi]
theorem key_gives {kp : AV} {x y : List Nat} (hk : ∀ κ : Ka, load1 kp h κ = κ (.str x) h) (f : Nat) : Gives (fun r h' => r = .bool (decide (y = x)) ∧ h' = h) ((rl (CL mx) (f + 1)).run 24 [.str y, kp] h) := by
  refine Gives.runs (n := f) (kKey_run mx _ _ _ _ _) ?_
  simp only [sy, List.length_append, Nat.reduceAdd, Nat.reduceMul, Nat.reduceSub, Nat.reduceLeDiff, Nat.reduceEqDiff, Nat.reduceLT, reduceIte, kKey_s, hk, eqS_dec]
  exact Ends.mk ⟨rfl, rfl⟩
theorem ixf_loop {kp : AV} {x : List Nat} {A B : List (List Nat)} (hL : L = A ++ x :: B) (hA : x ∉ A) (h0 : SlAt h v0 (strsA L)) (hb : L.length ≤ 1000000) (hk : ∀ κ : Ka, load1 kp h κ = κ (.str x) h) (v4 : AV) : ∀ (k i f : Nat) (v5 v9 v16 : AV), i + k = A.length → k + 4 ≤ f →
    (∀ v5 v7 v8 v9 v16, Q (κx .ret ⟨kIxf_T v0 (.fn 24 [] [kp]) (.int 9223372036854775807 (A.length : Int)) v5 v7 v8 v9 v16, h⟩)) →
    Q (kcR κn κx ((rl (CL mx) f).lp (kIxf_3 mx) ⟨kIxf_T v0 (.fn 24 [] [kp]) v4 v5 (.int 9223372036854775807 (L.length : Int)) (.int 9223372036854775807 (i : Int)) v9 v16, h⟩)) := by
  intro k
  have hlen : L.length = A.length + (B.length + 1) := by rw [hL]; simp
  induction k with
  | zero =>
    intro i f v5 v9 v16 hi hf hr
    obtain ⟨f, rfl⟩ := fuel hf
    obtain rfl : i = A.length := by omega
    have ex : L[A.length]? = some x := by rw [hL]; simp
    obtain ⟨p, _, p2, p3⟩ := h0.idx (strsA_get ex)
    have e1 : decide ((A.length : Int) < (L.length : Int)) = true := by rw [decide_eq_true_iff]; omega
    refine wLoop (kIxf_nat mx _) ?_
    simp only [sy, List.length_append, Nat.reduceAdd, Nat.reduceMul, Nat.reduceSub, Nat.reduceLeDiff, Nat.reduceEqDiff, Nat.reduceLT, reduceIte, kIxf_s, e1, p2, p3, avFn_fn, callV_eq]
    refine wCall (key_gives (y := x) hk _).call ?_
    rintro r h' ⟨rfl, rfl⟩
    simp only [sy, List.length_append, Nat.reduceAdd, Nat.reduceMul, Nat.reduceSub, Nat.reduceLeDiff, Nat.reduceEqDiff, Nat.reduceLT, reduceIte, kIxf_s, decide_true]
    exact hr _ _ _ _ _
  | succ k ih =>
    intro i f v5 v9 v16 hi hf hr
    obtain ⟨f, rfl⟩ := fuel hf
    have hlt : i < A.length := by omega
    have ey : L[i]? = some A[i] := by rw [hL, List.getElem?_append_left hlt]; exact List.getElem?_eq_getElem hlt
    have hne : A[i] ≠ x := fun c => hA (c ▸ List.getElem_mem hlt)
    obtain ⟨p, _, p2, p3⟩ := h0.idx (strsA_get ey)
    have e1 : decide ((i : Int) < (L.length : Int)) = true := by rw [decide_eq_true_iff]; omega
    have e4 : wrapA 9223372036854775807 ((i : Int) + 1) = ((i + 1 : Nat) : Int) := by rw [wrapA_i64 (by omega) (by omega)]; simp
    refine wLoop (kIxf_nat mx _) ?_
    simp only [sy, List.length_append, Nat.reduceAdd, Nat.reduceMul, Nat.reduceSub, Nat.reduceLeDiff, Nat.reduceEqDiff, Nat.reduceLT, reduceIte, kIxf_s, e1, p2, p3, avFn_fn, callV_eq]
    refine wCall (key_gives (y := A[i]) hk _).call ?_
    rintro r h' ⟨rfl, rfl⟩
    simp only [sy, List.length_append, Nat.reduceAdd, Nat.reduceMul, Nat.reduceSub, Nat.reduceLeDiff, Nat.reduceEqDiff, Nat.reduceLT, reduceIte, kIxf_s, decide_eq_false hne, e4]
    exact ih (i + 1) (f + k + 4) _ _ _ (by omega) (by omega) hr
theorem clrA_o {n b o c : Nat} {e : Bool} {cs : List AV} {y : Nat} (hn : n = 1) (hb : hget h b = some (.cells cs y)) (ho : o + 1 ≤ cs.length) (κ : Ka) : clrA 1 [.str []] (.slo b o n c 1 e) h κ = κ (.tup []) (h.set b (some (.cells (cs.take o ++ (.str [] :: cs.drop (o + 1))) y))) := by
  subst hn
  show bq (Nat.beq 1 0) (κ (.tup []) h) (bq (Nat.beq 1 1) (cellsK h b (clrC 1 (repA [.str []] 1) h κ b o)) none) = _
  show cellsK h b (clrC 1 (repA [.str []] 1) h κ b o) = _
  unfold cellsK
  rw [hb]
  show bq (and (plains [.str []]) (Nat.ble (Nat.add o 1) (flen cs))) (κ (.tup []) (fset (some (.cells (setR cs o [.str []]) y)) h b)) none = _
  rw [nble, flen_eq, show plains [AV.str []] = true from rfl, decide_eq_true (show Nat.add o 1 ≤ cs.length from ho), fset_eq]
  unfold setR
  rw [ftake_eq, fdrop_eq, fapp_eq, fapp_eq]
  rfl
/-- The tail of a row: its last element. -/
theorem slS_del {b n cap : Nat} {e : Bool} {l u : Nat} (hl : l < cap) (hlu : l ≤ u) (hu : u ≤ cap) (h : AH) (k k' : Nat) (κ : Ka) : slS 1 (.slo b 0 n cap 1 e) (some (.int k (l : Int))) (some (.int k' (u : Int))) none h κ = κ (.slo b l (u - l) (cap - l) 1 e) h := by
  show bq (and (and (Nat.ble l u) (Nat.ble u cap)) (and (Nat.ble cap cap) (or (not false) true))) (bq (Nat.beq 1 1) (bq (Nat.beq l cap) (κ .sle h) (κ (.slo b (Nat.add 0 (Nat.mul l 1)) (Nat.sub u l) (Nat.sub cap l) 1 (or e false)) h)) none) none = _
  rw [nble, nble, nble, nbeq, nbeq, decide_eq_true hlu, decide_eq_true hu, decide_eq_true (Nat.le_refl _), decide_eq_true rfl, decide_eq_false (show ¬ l = cap by omega), Bool.or_false, show Nat.add 0 (Nat.mul l 1) = l by show 0 + l * 1 = l; omega]
  rfl
theorem slS_mid {b n cap : Nat} {e : Bool} {l u : Nat} (hl : l < cap) (hlu : l ≤ u) (hu : u ≤ n) (hc : n ≤ cap) (h : AH) (k k' : Nat) (κ : Ka) : slS 1 (.slo b 0 n cap 1 e) (some (.int k (l : Int))) (some (.int k' (u : Int))) none h κ = κ (.slo b l (u - l) (cap - l) 1 e) h := by
  show bq (and (and (Nat.ble l u) (Nat.ble u cap)) (and (Nat.ble cap cap) (or (not false) true))) (bq (Nat.beq 1 1) (bq (Nat.beq l cap) (κ .sle h) (κ (.slo b (Nat.add 0 (Nat.mul l 1)) (Nat.sub u l) (Nat.sub cap l) 1 (or e false)) h)) none) none = _
  rw [nble, nble, nble, nbeq, nbeq, decide_eq_true hlu, decide_eq_true (show u ≤ cap by omega), decide_eq_true (Nat.le_refl _), decide_eq_true rfl, decide_eq_false (show ¬ l = cap by omega), Bool.or_false, show Nat.add 0 (Nat.mul l 1) = l by show 0 + l * 1 = l; omega]
  rfl
theorem slS_tail {b n cap : Nat} {e : Bool} {l : Nat} (hl : l < cap) (hu : l ≤ n) (hc : n ≤ cap) (h : AH) (k : Nat) (κ : Ka) : slS 1 (.slo b 0 n cap 1 e) (some (.int k (l : Int))) none none h κ = κ (.slo b l (n - l) (cap - l) 1 e) h := by
  show bq (and (and (Nat.ble l n) (Nat.ble n cap)) (and (Nat.ble cap cap) true)) (bq (Nat.beq 1 1) (bq (Nat.beq l cap) (κ .sle h) (κ (.slo b (Nat.add 0 (Nat.mul l 1)) (Nat.sub n l) (Nat.sub cap l) 1 (or e false)) h)) none) none = _
  rw [nble, nble, nble, nbeq, nbeq, decide_eq_true hu, decide_eq_true hc, decide_eq_true (Nat.le_refl _), decide_eq_true rfl, decide_eq_false (show ¬ l = cap by omega), Bool.or_false, show Nat.add 0 (Nat.mul l 1) = l by show 0 + l * 1 = l; omega]
  rfl
theorem slS_tail0 {b n : Nat} {e : Bool} (h : AH) (k : Nat) (κ : Ka) : slS 1 (.slo b 0 n n 1 e) (some (.int k (n : Int))) none none h κ = κ .sle h := by
  show bq (and (and (Nat.ble n n) (Nat.ble n n)) (and (Nat.ble n n) true)) (bq (Nat.beq 1 1) (bq (Nat.beq n n) (κ .sle h) _) none) none = _
  rw [nble, nbeq, nbeq, decide_eq_true (Nat.le_refl _), decide_eq_true rfl, decide_eq_true rfl]
  rfl
theorem slS_head {b n cap : Nat} {e : Bool} {i : Nat} (hi : i ≤ n) (hc : n ≤ cap) (h0 : 0 < cap) (h : AH) (k : Nat) (κ : Ka) : slS 1 (.slo b 0 n cap 1 e) none (some (.int k (i : Int))) none h κ = κ (.slo b 0 i cap 1 e) h := by
  show bq (and (and (Nat.ble 0 i) (Nat.ble i cap)) (and (Nat.ble cap cap) true)) (bq (Nat.beq 1 1) (bq (Nat.beq 0 cap) (κ .sle h) (κ (.slo b (Nat.add 0 (Nat.mul 0 1)) (Nat.sub i 0) (Nat.sub cap 0) 1 (or e false)) h)) none) none = _
  rw [nble, nble, nble, nbeq, nbeq, decide_eq_true (Nat.zero_le _), decide_eq_true (show i ≤ cap by omega), decide_eq_true (Nat.le_refl _), decide_eq_true rfl, decide_eq_false (show ¬ 0 = cap by omega), Bool.or_false]
  rfl
/-- The last element is made empty, and left out. -/
theorem Ow1.drop1 {S : Nat → Prop} {v w : AV} {cs : List AV} (o : Ow1 h S v (cs ++ [w])) (hw : w.plain = true) (k k' : Nat) : ∃ t h' v', (∀ κ : Ka, slS 1 v (some (.int k (cs.length : Int))) none none h κ = κ t h) ∧ (∀ κ : Ka, clrA 1 [.str []] t h κ = κ (.tup []) h') ∧ (∀ κ : Ka, slS 1 v none (some (.int k' (cs.length : Int))) none h' κ = κ v' h') ∧ Ow1 h' S v' cs ∧ h'.length = h.length ∧ ∀ j, ¬ S j → hget h' j = hget h j := by
  rcases o with ⟨c, _⟩ | ⟨b, cap, e, junk, y, hs, rfl, hb, hl⟩
  · simp at c
  · rw [List.length_append] at hl ⊢
    have hl : cs.length + 1 + junk.length = cap := hl
    refine ⟨_, _, _, fun κ => slS_tail (l := cs.length) (by omega) (by simp) (by show cs.length + 1 ≤ cap; omega) h k κ, fun κ => clrA_o (by show cs.length + 1 - cs.length = 1; omega) hb (by simp) κ, fun κ => slS_head (i := cs.length) (by simp) (by show cs.length + 1 ≤ cap; omega) (by omega) _ k' κ, .inr ⟨b, cap, e, .str [] :: junk, y, hs, rfl, ?_, by simp; omega⟩, by rw [List.length_set], fun j hj => hget_set_ne (fun cc : b = j => hj (cc ▸ hs)) _⟩
    rw [hget_set_same (hget_of_lt hb)]
    simp
theorem dlf_loop {S : Nat → Prop} {kp v0 : AV} {x : List Nat} {A B : List (List Nat)} (hB : x ∉ B) (hl : A.length + B.length ≤ 100000) {q : Nat} (hq : ¬ S q) (hkp : kp = .pto q 0) {kb : Option Blk} (hkb : ∀ (h : AH) (κ : Ka), hget h q = kb → load1 kp h κ = κ (.str x) h) (v12 v4 : AV) : ∀ (R P : List (List Nat)) (f : Nat) (h : AH) (w v7 v19 v29 : AV), B = P ++ R → R.length + 4 ≤ f → w.plain = true →
    Ow1 h S v0 (strsA A ++ (strsA P ++ w :: strsA R)) → hget h q = kb →
    (∀ h' w v6 v7 v19 v29, w.plain = true → Ow1 h' S v0 (strsA (A ++ B) ++ [w]) → h'.length = h.length → (∀ i, ¬ S i → hget h' i = hget h i) →
      Q (κx (.exit 0) ⟨kDlf_T v0 (.fn 24 [] [kp]) v4 (.int 9223372036854775807 ((A.length + B.length : Nat) : Int)) v6 v7 v12 v19 v29, h'⟩)) →
    Q (kcR κn κx ((rl (CL mx) f).lp (kDlf_3 mx) ⟨kDlf_T v0 (.fn 24 [] [kp]) v4 (.int 9223372036854775807 ((A.length + P.length : Nat) : Int)) (.int 9223372036854775807 ((A.length + 1 + P.length : Nat) : Int)) v7 v12 v19 v29, h⟩)) := by
  intro R
  induction R with
  | nil =>
    intro P f h w v7 v19 v29 hBP hf hw hg hk hr
    obtain ⟨f, rfl⟩ := fuel hf
    obtain rfl : B = P := by simpa using hBP
    have l0 := fun κ => hg.at.lenS h κ
    have e0 : ((strsA A ++ (strsA B ++ w :: strsA [])).length : Int) = ((A.length + 1 + B.length : Nat) : Int) := by simp [strsA_len]; omega
    rw [e0] at l0
    refine wLoop (kDlf_nat mx _) ?_
    simp only [sy, List.length_append, Nat.reduceAdd, Nat.reduceMul, Nat.reduceSub, Nat.reduceLeDiff, Nat.reduceEqDiff, Nat.reduceLT, reduceIte, kDlf_s, l0, Int.lt_irrefl]
    exact hr h w _ _ _ _ hw (by rw [strsA_app]; simpa [strsA] using hg) rfl fun i _ => rfl
  | cons z R ih =>
    intro P f h w v7 v19 v29 hBP hf hw hg hk hr
    obtain ⟨f, rfl⟩ := fuel hf
    have hlenB : B.length = P.length + (R.length + 1) := by rw [hBP]; simp
    have hzx : z ≠ x := fun c => hB (by rw [hBP, ← c]; simp)
    have l0 := fun κ => hg.at.lenS h κ
    have e0 : ((strsA A ++ (strsA P ++ w :: strsA (z :: R))).length : Int) = ((A.length + 1 + B.length : Nat) : Int) := by simp [strsA_len]; omega
    rw [e0] at l0
    have e1 : decide (((A.length + 1 + P.length : Nat) : Int) < ((A.length + 1 + B.length : Nat) : Int)) = true := by rw [decide_eq_true_iff]; omega
    have hget1 : (strsA A ++ (strsA P ++ w :: strsA (z :: R)))[A.length + 1 + P.length]? = some (.str z) := by
      have : A.length + 1 + P.length = (strsA A ++ strsA P ++ [w]).length := by simp [strsA_len]; omega
      rw [this, show strsA A ++ (strsA P ++ w :: strsA (z :: R)) = (strsA A ++ strsA P ++ [w]) ++ (.str z :: strsA R) by simp [strsA]]
      simp
    have hget2 : (strsA A ++ (strsA P ++ w :: strsA (z :: R)))[A.length + P.length]? = some w := by
      rw [show strsA A ++ (strsA P ++ w :: strsA (z :: R)) = (strsA A ++ strsA P) ++ (w :: strsA (z :: R)) by simp, show A.length + P.length = (strsA A ++ strsA P).length by simp [strsA_len]]
      simp
    obtain ⟨p1, i1, _, l1, _⟩ := hg.set hget1
    obtain ⟨p2, i2, _, _, s2⟩ := hg.set hget2
    obtain ⟨h2, s2, o2, n2, f2⟩ := s2 (.str z) rfl
    have e4 : wrapA 9223372036854775807 (((A.length + P.length : Nat) : Int) + 1) = ((A.length + (P ++ [z]).length : Nat) : Int) := by rw [wrapA_i64 (by omega) (by omega)]; simp; omega
    have e5 : wrapA 9223372036854775807 (((A.length + 1 + P.length : Nat) : Int) + 1) = ((A.length + 1 + (P ++ [z]).length : Nat) : Int) := by rw [wrapA_i64 (by omega) (by omega)]; simp; omega
    refine wLoop (kDlf_nat mx _) ?_
    simp only [sy, List.length_append, Nat.reduceAdd, Nat.reduceMul, Nat.reduceSub, Nat.reduceLeDiff, Nat.reduceEqDiff, Nat.reduceLT, reduceIte, kDlf_s, l0, e1, i1, l1, avFn_fn, callV_eq]
    refine wCall (key_gives (y := z) (hkb h · hk) _).call ?_
    rintro r h' ⟨rfl, rfl⟩
    simp only [sy, List.length_append, Nat.reduceAdd, Nat.reduceMul, Nat.reduceSub, Nat.reduceLeDiff, Nat.reduceEqDiff, Nat.reduceLT, reduceIte, kDlf_s, decide_eq_false hzx, i2, s2, e4, e5]
    have hrow : (strsA A ++ (strsA P ++ w :: strsA (z :: R))).set (A.length + P.length) (.str z) = strsA A ++ (strsA (P ++ [z]) ++ .str z :: strsA R) := by
      rw [show strsA A ++ (strsA P ++ w :: strsA (z :: R)) = (strsA A ++ strsA P) ++ (w :: strsA (z :: R)) by simp, show A.length + P.length = (strsA A ++ strsA P).length by simp [strsA_len], setMid]
      simp [strsA]
    rw [hrow] at o2
    have key := fun v7 v19 v29 => ih (P ++ [z]) (f + R.length + 4) h2 (.str z) v7 v19 v29 (by rw [hBP]; simp) (by omega) rfl o2 (by rw [f2 q hq]; exact hk) (fun h3 w v6 v7 v19 v29 g0 g1 g2 g3 => hr h3 w v6 v7 v19 v29 g0 g1 (by rw [g2, n2]) fun i hi => by rw [g3 i hi, f2 i hi])
    rw [show (P ++ [z]).length = P.length + 1 by simp] at key
    exact key _ _ _
/-- DeleteFunc, with the text of which there is one. -/
theorem dlf_gives {S : Nat → Prop} {x : List Nat} {A B : List (List Nat)} (hA : x ∉ A) (hB : x ∉ B) (hl : A.length + B.length ≤ 100000) {q : Nat} (hq : ¬ S q) {kb : Option Blk} (hkb : ∀ (h : AH) (κ : Ka), hget h q = kb → load1 (.pto q 0) h κ = κ (.str x) h) (hk : hget h q = kb)
    (o : Ow1 h S v0 (strsA (A ++ x :: B))) (f : Nat) (hf : A.length + B.length + 10 ≤ f) :
    Gives (fun r h' => Ow1 h' S r (strsA (A ++ B)) ∧ h'.length = h.length ∧ ∀ i, ¬ S i → hget h' i = hget h i) ((rl (CL mx) f).run 22 [v0, .fn 24 [] [.pto q 0]] h) := by
  obtain ⟨f, rfl⟩ := fuel hf
  refine Gives.runs (n := f + (A.length + B.length) + 9) (kDlf_run mx _ _ _ _ _) ?_
  have hs := o.at
  have l0 := fun κ => hs.lenS h κ
  rw [strsA_len] at l0
  have g : Gives (fun r h' => r = .int 9223372036854775807 (A.length : Int) ∧ h' = h) ((rl (CL mx) (f + (A.length + B.length) + 9)).run 33 [v0, .fn 24 [] [.pto q 0]] h) := by
    refine Gives.runs (n := f + (A.length + B.length) + 8) (kIxf_run mx _ _ _ _ _) ?_
    simp only [sy, Nat.reduceAdd, Nat.reduceMul, Nat.reduceSub, Nat.reduceLeDiff, Nat.reduceEqDiff, Nat.reduceLT, reduceIte, kIxf_s, l0]
    refine ixf_loop (L := A ++ x :: B) rfl hA hs (by simp; omega) (fun κ => hkb h κ hk) _ A.length 0 _ _ _ _ (by omega) (by omega) fun v5 v7 v8 v9 v16 => ?_
    simp only [sy, List.length_append, Nat.reduceAdd, Nat.reduceMul, Nat.reduceSub, Nat.reduceLeDiff, Nat.reduceEqDiff, Nat.reduceLT, reduceIte, kIxf_s]
    exact Ends.mk ⟨rfl, rfl⟩
  simp only [sy, List.length_append, Nat.reduceAdd, Nat.reduceMul, Nat.reduceSub, Nat.reduceLeDiff, Nat.reduceEqDiff, Nat.reduceLT, reduceIte, kDlf_s]
  refine wCall g.call ?_
  rintro r h' ⟨rfl, rfl⟩
  have e0 : decide ((A.length : Int) = -1) = false := by rw [decide_eq_false_iff_not]; omega
  have e1 : wrapA 9223372036854775807 ((A.length : Int) + 1) = ((A.length + 1 : Nat) : Int) := by rw [wrapA_i64 (by omega) (by omega)]; simp
  simp only [sy, List.length_append, Nat.reduceAdd, Nat.reduceMul, Nat.reduceSub, Nat.reduceLeDiff, Nat.reduceEqDiff, Nat.reduceLT, reduceIte, kDlf_s, e0, e1]
  have key := dlf_loop (mx := mx) (Q := Ends fun r h'' => Ow1 h'' S r (strsA (A ++ B)) ∧ h''.length = h'.length ∧ ∀ i, ¬ S i → hget h'' i = hget h' i) (κn := fun s => kc (CL mx) (rl (CL mx) (f + (A.length + B.length) + 9)).run (rl (CL mx) (f + (A.length + B.length) + 9)).lp (kDlf_2 mx) s (kcE (CL mx) [.tmp 4]) (kcQ (CL mx) [.tmp 4])) (κx := kcO 0 (fun s => kc (CL mx) (rl (CL mx) (f + (A.length + B.length) + 9)).run (rl (CL mx) (f + (A.length + B.length) + 9)).lp (kDlf_2 mx) s (kcE (CL mx) [.tmp 4]) (kcQ (CL mx) [.tmp 4])) (kcQ (CL mx) [.tmp 4])) hB hl hq rfl hkb (v0 := v0) (.bool false) .nils B [] (f + (A.length + B.length) + 9) h' (.str x) .bot .bot .bot (by simp) (by omega) rfl (by simpa [strsA] using o) hk (fun h2 w v6 v7 v19 v29 hw o2 n2 f2 => by
    obtain ⟨t, h3, v', d1, d2, d3, d4, d5, d6⟩ := o2.drop1 hw 9223372036854775807 9223372036854775807
    rw [strsA_len, List.length_append] at d1 d3
    simp only [sy, Nat.reduceAdd, Nat.reduceMul, Nat.reduceSub, Nat.reduceLeDiff, Nat.reduceEqDiff, Nat.reduceLT, reduceIte, kDlf_s, d1, d2, d3]
    exact Ends.mk ⟨d4, by rw [d5, n2], fun i hi => by rw [d6 i hi, f2 i hi]⟩)
  exact key
end
end Go.Proofs.YtdkioifmieamoaaGreatDoor
