/- The law ValidCases: its run. The functions' equations are printed by a program. -/
import Derived.Test.YtcdmgfphhbnkaaaGreatDoorMF
import Derived.Test.YtcdmgfphhbnkaaaGreatDoorFi
import Derived.Test.YtcdmgfphhbnkaaaGreatDoorME
namespace Go.Proofs.YtcdmgfphhbnkaaaGreatDoor
set_option linter.unusedSimpArgs false
set_option linter.unusedVariables false
set_option linter.unnecessarySimpa false
noncomputable section
/-- The context in which the head is told ahead. -/
def CL (mx : Int) : Cx := (C0 mx).told (.lf 4 [([], .bool true)])
/- guipure/valid.Case -/
def kCase_T (v0 v1 v2 v4 v6 v9 v15 v16 v17 v18 v24 v30 : AV) : Tm := (.nd 15 (.nd 4 (.nd 1 (.lf 0 v0) (.nd 2 (.lf 1 v1) (.lf 2 v2))) (.nd 6 (.lf 4 v4) (.nd 9 (.lf 6 v6) (.lf 9 v9)))) (.nd 18 (.nd 16 (.lf 15 v15) (.nd 17 (.lf 16 v16) (.lf 17 v17))) (.nd 24 (.lf 18 v18) (.nd 30 (.lf 24 v24) (.lf 30 v30)))))
section
variable (C : Cx) (run : Run) (lp : Lp) (s : St) (h : AH) (v0 v1 v2 v4 v6 v9 v15 v16 v17 v18 v24 v30 : AV)
def kCase_0 (C : Cx) : K := .reg [.mk (o1 (boxA 31) (.tr 0)), .mk (o1 moveA (.cst (.int 9223372036854775807 0)))] [(4, 0), (2, 1)]
theorem kCase_0_eq : kx C run lp (kCase_0 C) ⟨kCase_T v0 v1 v2 v4 v6 v9 v15 v16 v17 v18 v24 v30, h⟩ = kNrm (boxA 31 v0 h (fun a0 h => moveA (.int 9223372036854775807 0) h (fun a1 h => some (.st (kCase_T v0 v1 a0 a1 v6 v9 v15 v16 v17 v18 v24 v30) h)))) := rfl
def kCase_1 (C : Cx) : K := .reg [.mk (o1 (moveP 15) (.tr 2)), .mk (o1 load1 (.st 0)), .mk (o2 (cmp ine) (.st 0) (.cst (.int 18446744073709551615 0)))] [(9, 0)]
theorem kCase_1_eq : kx C run lp (kCase_1 C) ⟨kCase_T v0 v1 v2 v4 v6 v9 v15 v16 v17 v18 v24 v30, h⟩ = kNrm (moveP 15 v2 h (fun a0 h => load1 a0 h (fun a1 h => cmp ine a1 (.int 18446744073709551615 0) h (fun a2 h => some (.st (kCase_T v0 v1 v2 v4 v6 a2 v15 v16 v17 v18 v24 v30) h))))) := rfl
def kCase_2 (C : Cx) : K := .reg [.mk (o1 moveA (.tr 1)), .mk (o1 (moveP 15) (.tr 2)), .mk (o1 load1 (.st 0)), .mk (o2 (remA) (.st 2) (.st 0)), .mk (o1 moveA (.st 0))] [(1, 0)]
theorem kCase_2_eq : kx C run lp (kCase_2 C) ⟨kCase_T v0 v1 v2 v4 v6 v9 v15 v16 v17 v18 v24 v30, h⟩ = kNrm (moveA v1 h (fun a0 h => moveP 15 v2 h (fun a1 h => load1 a1 h (fun a2 h => remA a0 a2 h (fun a3 h => moveA a3 h (fun a4 h => some (.st (kCase_T v0 a4 v2 v4 v6 v9 v15 v16 v17 v18 v24 v30) h))))))) := rfl
def kCase_3 (_ : Cx) : K := .skip
theorem kCase_3_eq : kx C run lp (kCase_3 C) s = some (.nrm, s) := rfl
def kCase_4 (C : Cx) : K := .cond (.tr 9) (kCase_2 C) (kCase_3 C)
theorem kCase_4_eq : kx C run lp (kCase_4 C) ⟨kCase_T v0 v1 v2 v4 v6 v9 v15 v16 v17 v18 v24 v30, h⟩ = kIf v9 (kx C run lp (kCase_2 C)) (kx C run lp (kCase_3 C)) ⟨kCase_T v0 v1 v2 v4 v6 v9 v15 v16 v17 v18 v24 v30, h⟩ := rfl
def kCase_5 (C : Cx) : K := .seq (kCase_1 C) (kCase_4 C)
theorem kCase_5_eq : kx C run lp (kCase_5 C) s = obind (kx C run lp (kCase_1 C) s) (kThen (kx C run lp (kCase_4 C))) := rfl
def kCase_6 (C : Cx) : K := .reg [.mk (o1 (moveP 16) (.tr 2)), .mk (o1 load1 (.st 0)), .mk (o1 lenS (.st 0)), .mk (o1 moveA (.cst (.int 9223372036854775807 0)))] [(17, 0), (16, 1), (15, 2)]
theorem kCase_6_eq : kx C run lp (kCase_6 C) ⟨kCase_T v0 v1 v2 v4 v6 v9 v15 v16 v17 v18 v24 v30, h⟩ = kNrm (moveP 16 v2 h (fun a0 h => load1 a0 h (fun a1 h => lenS a1 h (fun a2 h => moveA (.int 9223372036854775807 0) h (fun a3 h => some (.st (kCase_T v0 v1 v2 v4 v6 v9 a1 a2 a3 v18 v24 v30) h)))))) := rfl
def kCase_7 (C : Cx) : K := .reg [.mk (o2 (cmp ilt) (.tr 17) (.tr 16))] [(18, 0)]
theorem kCase_7_eq : kx C run lp (kCase_7 C) ⟨kCase_T v0 v1 v2 v4 v6 v9 v15 v16 v17 v18 v24 v30, h⟩ = kNrm (cmp ilt v17 v16 h (fun a0 h => some (.st (kCase_T v0 v1 v2 v4 v6 v9 v15 v16 v17 a0 v24 v30) h))) := rfl
def kCase_8 (_ : Cx) : K := .skip
theorem kCase_8_eq : kx C run lp (kCase_8 C) s = some (.nrm, s) := rfl
def kCase_9 (_ : Cx) : K := .ex (.exit 0)
theorem kCase_9_eq : kx C run lp (kCase_9 C) s = some (.exit 0, s) := rfl
def kCase_10 (C : Cx) : K := .cond (.tr 18) (kCase_8 C) (kCase_9 C)
theorem kCase_10_eq : kx C run lp (kCase_10 C) ⟨kCase_T v0 v1 v2 v4 v6 v9 v15 v16 v17 v18 v24 v30, h⟩ = kIf v18 (kx C run lp (kCase_8 C)) (kx C run lp (kCase_9 C)) ⟨kCase_T v0 v1 v2 v4 v6 v9 v15 v16 v17 v18 v24 v30, h⟩ := rfl
def kCase_11 (C : Cx) : K := .reg [.mk (o2 (idxS 2) (.tr 15) (.tr 17)), .mk (o1 (loadG 2) (.st 0)), .mk (oAlloc 35 [.int 18446744073709551615 0, .int 9223372036854775807 0]), .mk (o2 (storeG 2) (.st 0) (.st 1))] [(6, 1)]
theorem kCase_11_eq : kx C run lp (kCase_11 C) ⟨kCase_T v0 v1 v2 v4 v6 v9 v15 v16 v17 v18 v24 v30, h⟩ = kNrm (idxS 2 v15 v17 h (fun a0 h => loadG 2 a0 h (fun a1 h => newA h (.cells [.int 18446744073709551615 0, .int 9223372036854775807 0] 35) (fun a2 h => storeG 2 a2 a1 h (fun a3 h => some (.st (kCase_T v0 v1 v2 v4 a2 v9 v15 v16 v17 v18 v24 v30) h)))))) := rfl
def kCase_12 (C : Cx) : K := .reg [.mk (o1 (moveP 0) (.tr 6)), .mk (o1 load1 (.st 0)), .mk (o1 moveA (.tr 1)), .mk (o2 (cmp ibeq) (.st 1) (.st 0))] [(24, 0)]
theorem kCase_12_eq : kx C run lp (kCase_12 C) ⟨kCase_T v0 v1 v2 v4 v6 v9 v15 v16 v17 v18 v24 v30, h⟩ = kNrm (moveP 0 v6 h (fun a0 h => load1 a0 h (fun a1 h => moveA v1 h (fun a2 h => cmp ibeq a1 a2 h (fun a3 h => some (.st (kCase_T v0 v1 v2 v4 v6 v9 v15 v16 v17 v18 a3 v30) h)))))) := rfl
def kCase_13 (C : Cx) : K := .reg [.mk (o1 (moveP 1) (.tr 6)), .mk (o1 load1 (.st 0)), .mk (o1 moveA (.st 0))] [(4, 0)]
theorem kCase_13_eq : kx C run lp (kCase_13 C) ⟨kCase_T v0 v1 v2 v4 v6 v9 v15 v16 v17 v18 v24 v30, h⟩ = kNrm (moveP 1 v6 h (fun a0 h => load1 a0 h (fun a1 h => moveA a1 h (fun a2 h => some (.st (kCase_T v0 v1 v2 a2 v6 v9 v15 v16 v17 v18 v24 v30) h))))) := rfl
def kCase_14 (_ : Cx) : K := .ex .ret
theorem kCase_14_eq : kx C run lp (kCase_14 C) s = some (.ret, s) := rfl
def kCase_15 (C : Cx) : K := .seq (kCase_13 C) (kCase_14 C)
theorem kCase_15_eq : kx C run lp (kCase_15 C) s = obind (kx C run lp (kCase_13 C) s) (kThen (kx C run lp (kCase_14 C))) := rfl
def kCase_16 (_ : Cx) : K := .skip
theorem kCase_16_eq : kx C run lp (kCase_16 C) s = some (.nrm, s) := rfl
def kCase_17 (C : Cx) : K := .cond (.tr 24) (kCase_15 C) (kCase_16 C)
theorem kCase_17_eq : kx C run lp (kCase_17 C) ⟨kCase_T v0 v1 v2 v4 v6 v9 v15 v16 v17 v18 v24 v30, h⟩ = kIf v24 (kx C run lp (kCase_15 C)) (kx C run lp (kCase_16 C)) ⟨kCase_T v0 v1 v2 v4 v6 v9 v15 v16 v17 v18 v24 v30, h⟩ := rfl
def kCase_18 (C : Cx) : K := .seq (kCase_12 C) (kCase_17 C)
theorem kCase_18_eq : kx C run lp (kCase_18 C) s = obind (kx C run lp (kCase_12 C) s) (kThen (kx C run lp (kCase_17 C))) := rfl
def kCase_19 (C : Cx) : K := .seq (kCase_11 C) (kCase_18 C)
theorem kCase_19_eq : kx C run lp (kCase_19 C) s = obind (kx C run lp (kCase_11 C) s) (kThen (kx C run lp (kCase_18 C))) := rfl
def kCase_20 (C : Cx) : K := .block 1 (kCase_19 C)
theorem kCase_20_eq : kx C run lp (kCase_20 C) s = obind (kx C run lp (kCase_19 C) s) (kOut 1) := rfl
def kCase_21 (C : Cx) : K := .reg [.mk (o2 (arith iadd) (.tr 17) (.cst (.int 9223372036854775807 1))), .mk (o1 moveA (.st 0))] [(17, 0)]
theorem kCase_21_eq : kx C run lp (kCase_21 C) ⟨kCase_T v0 v1 v2 v4 v6 v9 v15 v16 v17 v18 v24 v30, h⟩ = kNrm (arith iadd v17 (.int 9223372036854775807 1) h (fun a0 h => moveA a0 h (fun a1 h => some (.st (kCase_T v0 v1 v2 v4 v6 v9 v15 v16 a1 v18 v24 v30) h)))) := rfl
def kCase_22 (C : Cx) : K := .seq (kCase_20 C) (kCase_21 C)
theorem kCase_22_eq : kx C run lp (kCase_22 C) s = obind (kx C run lp (kCase_20 C) s) (kThen (kx C run lp (kCase_21 C))) := rfl
def kCase_23 (C : Cx) : K := .seq (kCase_10 C) (kCase_22 C)
theorem kCase_23_eq : kx C run lp (kCase_23 C) s = obind (kx C run lp (kCase_10 C) s) (kThen (kx C run lp (kCase_22 C))) := rfl
def kCase_24 (C : Cx) : K := .seq (kCase_7 C) (kCase_23 C)
theorem kCase_24_eq : kx C run lp (kCase_24 C) s = obind (kx C run lp (kCase_7 C) s) (kThen (kx C run lp (kCase_23 C))) := rfl
def kCase_25 (C : Cx) : K := .loop (kCase_24 C)
theorem kCase_25_eq : kx C run lp (kCase_25 C) s = lp (kCase_24 C) s := rfl
def kCase_26 (C : Cx) : K := .block 0 (kCase_25 C)
theorem kCase_26_eq : kx C run lp (kCase_26 C) s = obind (kx C run lp (kCase_25 C) s) (kOut 0) := rfl
def kCase_27 (C : Cx) : K := .seq (kCase_6 C) (kCase_26 C)
theorem kCase_27_eq : kx C run lp (kCase_27 C) s = obind (kx C run lp (kCase_6 C) s) (kThen (kx C run lp (kCase_26 C))) := rfl
def kCase_28 (C : Cx) : K := .reg [.mk (o1 (moveP 0) (.tr 2)), .mk (o1 load1 (.st 0)), .mk (o2 (cmp ine) (.st 0) (.cst (.int 9223372036854775807 9)))] [(30, 0)]
theorem kCase_28_eq : kx C run lp (kCase_28 C) ⟨kCase_T v0 v1 v2 v4 v6 v9 v15 v16 v17 v18 v24 v30, h⟩ = kNrm (moveP 0 v2 h (fun a0 h => load1 a0 h (fun a1 h => cmp ine a1 (.int 9223372036854775807 9) h (fun a2 h => some (.st (kCase_T v0 v1 v2 v4 v6 v9 v15 v16 v17 v18 v24 a2) h))))) := rfl
def kCase_29 (C : Cx) : K := .reg [.mk (o1 moveA (.cst (.int 9223372036854775807 (-1))))] [(4, 0)]
theorem kCase_29_eq : kx C run lp (kCase_29 C) ⟨kCase_T v0 v1 v2 v4 v6 v9 v15 v16 v17 v18 v24 v30, h⟩ = kNrm (moveA (.int 9223372036854775807 (-1)) h (fun a0 h => some (.st (kCase_T v0 v1 v2 a0 v6 v9 v15 v16 v17 v18 v24 v30) h))) := rfl
def kCase_30 (_ : Cx) : K := .ex .ret
theorem kCase_30_eq : kx C run lp (kCase_30 C) s = some (.ret, s) := rfl
def kCase_31 (C : Cx) : K := .seq (kCase_29 C) (kCase_30 C)
theorem kCase_31_eq : kx C run lp (kCase_31 C) s = obind (kx C run lp (kCase_29 C) s) (kThen (kx C run lp (kCase_30 C))) := rfl
def kCase_32 (_ : Cx) : K := .skip
theorem kCase_32_eq : kx C run lp (kCase_32 C) s = some (.nrm, s) := rfl
def kCase_33 (C : Cx) : K := .cond (.tr 30) (kCase_31 C) (kCase_32 C)
theorem kCase_33_eq : kx C run lp (kCase_33 C) ⟨kCase_T v0 v1 v2 v4 v6 v9 v15 v16 v17 v18 v24 v30, h⟩ = kIf v30 (kx C run lp (kCase_31 C)) (kx C run lp (kCase_32 C)) ⟨kCase_T v0 v1 v2 v4 v6 v9 v15 v16 v17 v18 v24 v30, h⟩ := rfl
def kCase_34 (C : Cx) : K := .seq (kCase_28 C) (kCase_33 C)
theorem kCase_34_eq : kx C run lp (kCase_34 C) s = obind (kx C run lp (kCase_28 C) s) (kThen (kx C run lp (kCase_33 C))) := rfl
def kCase_35 (C : Cx) : K := .reg [.mk (o1 (moveP 17) (.tr 2)), .mk (o1 load1 (.st 0)), .mk (o1 moveA (.st 0))] [(4, 0)]
theorem kCase_35_eq : kx C run lp (kCase_35 C) ⟨kCase_T v0 v1 v2 v4 v6 v9 v15 v16 v17 v18 v24 v30, h⟩ = kNrm (moveP 17 v2 h (fun a0 h => load1 a0 h (fun a1 h => moveA a1 h (fun a2 h => some (.st (kCase_T v0 v1 v2 a2 v6 v9 v15 v16 v17 v18 v24 v30) h))))) := rfl
def kCase_36 (_ : Cx) : K := .ex .ret
theorem kCase_36_eq : kx C run lp (kCase_36 C) s = some (.ret, s) := rfl
def kCase_37 (C : Cx) : K := .seq (kCase_35 C) (kCase_36 C)
theorem kCase_37_eq : kx C run lp (kCase_37 C) s = obind (kx C run lp (kCase_35 C) s) (kThen (kx C run lp (kCase_36 C))) := rfl
def kCase_38 (C : Cx) : K := .seq (kCase_34 C) (kCase_37 C)
theorem kCase_38_eq : kx C run lp (kCase_38 C) s = obind (kx C run lp (kCase_34 C) s) (kThen (kx C run lp (kCase_37 C))) := rfl
def kCase_39 (C : Cx) : K := .seq (kCase_27 C) (kCase_38 C)
theorem kCase_39_eq : kx C run lp (kCase_39 C) s = obind (kx C run lp (kCase_27 C) s) (kThen (kx C run lp (kCase_38 C))) := rfl
def kCase_40 (C : Cx) : K := .seq (kCase_5 C) (kCase_39 C)
theorem kCase_40_eq : kx C run lp (kCase_40 C) s = obind (kx C run lp (kCase_5 C) s) (kThen (kx C run lp (kCase_39 C))) := rfl
def kCase_41 (C : Cx) : K := .seq (kCase_0 C) (kCase_40 C)
theorem kCase_41_eq : kx C run lp (kCase_41 C) s = obind (kx C run lp (kCase_0 C) s) (kThen (kx C run lp (kCase_40 C))) := rfl
theorem kCase_ret : endA C [.tmp 4] (.ret, ⟨kCase_T v0 v1 v2 v4 v6 v9 v15 v16 v17 v18 v24 v30, h⟩) = some (v4, h) := rfl
theorem kCase_nrm : endA C [.tmp 4] (.nrm, ⟨kCase_T v0 v1 v2 v4 v6 v9 v15 v16 v17 v18 v24 v30, h⟩) = some (v4, h) := rfl
end
def kCase_F (C : Cx) : FK := ⟨kCase_41 C, [0, 1, 2, 4, 6, 9, 15, 16, 17, 18, 24, 30], 33, [.tmp 4]⟩
theorem kCase_run (C : Cx) (run : Run) (lp : Lp) (x0 x1 : AV) (h : AH) (ho : C.orc 5 = none) (hf : fkAt C 5 = some (kCase_F C)) : runF C run lp 5 [x0, x1] h = obind (kx C run lp (kCase_41 C) ⟨kCase_T x0 x1 .bot .bot .bot .bot .bot .bot .bot .bot .bot .bot, h⟩) (endA C [.tmp 4]) := by
  unfold runF; rw [ho, hf]; rfl
/- guipure/guipurelaw18.ValidCases -/
def kLaw_T (v0 v1 v2 v4 v5 v6 v8 v10 v14 v21 v27 v28 v29 v30 v36 v44 : AV) : Tm := (.nd 14 (.nd 5 (.nd 2 (.nd 1 (.lf 0 v0) (.lf 1 v1)) (.nd 4 (.lf 2 v2) (.lf 4 v4))) (.nd 8 (.nd 6 (.lf 5 v5) (.lf 6 v6)) (.nd 10 (.lf 8 v8) (.lf 10 v10)))) (.nd 29 (.nd 27 (.nd 21 (.lf 14 v14) (.lf 21 v21)) (.nd 28 (.lf 27 v27) (.lf 28 v28))) (.nd 36 (.nd 30 (.lf 29 v29) (.lf 30 v30)) (.nd 44 (.lf 36 v36) (.lf 44 v44)))))
section
variable (C : Cx) (run : Run) (lp : Lp) (s : St) (h : AH) (v0 v1 v2 v4 v5 v6 v8 v10 v14 v21 v27 v28 v29 v30 v36 v44 : AV)
def kLaw_0 (C : Cx) : K := .reg [.mk (o1 (boxA 31) (.tr 0)), .mk (o1 moveA (.cst (.bool false)))] [(4, 0), (2, 1)]
theorem kLaw_0_eq : kx C run lp (kLaw_0 C) ⟨kLaw_T v0 v1 v2 v4 v5 v6 v8 v10 v14 v21 v27 v28 v29 v30 v36 v44, h⟩ = kNrm (boxA 31 v0 h (fun a0 h => moveA (.bool false) h (fun a1 h => some (.st (kLaw_T v0 v1 a0 a1 v5 v6 v8 v10 v14 v21 v27 v28 v29 v30 v36 v44) h)))) := rfl
def kLaw_1 (C : Cx) : K := .reg [.mk (oCallF 4 []), .mk (o1 notA (.st 0))] [(10, 0)]
theorem kLaw_1_eq : kx C run lp (kLaw_1 C) ⟨kLaw_T v0 v1 v2 v4 v5 v6 v8 v10 v14 v21 v27 v28 v29 v30 v36 v44, h⟩ = kNrm (withX (fun a0 h => notA a0 h (fun a1 h => some (.st (kLaw_T v0 v1 v2 v4 v5 v6 v8 a1 v14 v21 v27 v28 v29 v30 v36 v44) h))) (callA C run 4 [] h)) := rfl
def kLaw_2 (C : Cx) : K := .reg [.mk (o1 moveA (.cst (.bool false)))] [(4, 0)]
theorem kLaw_2_eq : kx C run lp (kLaw_2 C) ⟨kLaw_T v0 v1 v2 v4 v5 v6 v8 v10 v14 v21 v27 v28 v29 v30 v36 v44, h⟩ = kNrm (moveA (.bool false) h (fun a0 h => some (.st (kLaw_T v0 v1 v2 a0 v5 v6 v8 v10 v14 v21 v27 v28 v29 v30 v36 v44) h))) := rfl
def kLaw_3 (_ : Cx) : K := .ex .ret
theorem kLaw_3_eq : kx C run lp (kLaw_3 C) s = some (.ret, s) := rfl
def kLaw_4 (C : Cx) : K := .seq (kLaw_2 C) (kLaw_3 C)
theorem kLaw_4_eq : kx C run lp (kLaw_4 C) s = obind (kx C run lp (kLaw_2 C) s) (kThen (kx C run lp (kLaw_3 C))) := rfl
def kLaw_5 (_ : Cx) : K := .skip
theorem kLaw_5_eq : kx C run lp (kLaw_5 C) s = some (.nrm, s) := rfl
def kLaw_6 (C : Cx) : K := .cond (.tr 10) (kLaw_4 C) (kLaw_5 C)
theorem kLaw_6_eq : kx C run lp (kLaw_6 C) ⟨kLaw_T v0 v1 v2 v4 v5 v6 v8 v10 v14 v21 v27 v28 v29 v30 v36 v44, h⟩ = kIf v10 (kx C run lp (kLaw_4 C)) (kx C run lp (kLaw_5 C)) ⟨kLaw_T v0 v1 v2 v4 v5 v6 v8 v10 v14 v21 v27 v28 v29 v30 v36 v44, h⟩ := rfl
def kLaw_7 (C : Cx) : K := .seq (kLaw_1 C) (kLaw_6 C)
theorem kLaw_7_eq : kx C run lp (kLaw_7 C) s = obind (kx C run lp (kLaw_1 C) s) (kThen (kx C run lp (kLaw_6 C))) := rfl
def kLaw_8 (C : Cx) : K := .reg [.mk (o1 (moveP 16) (.tr 2)), .mk (o1 load1 (.st 0)), .mk (o1 lenS (.st 0)), .mk (o2 (cmp igt) (.st 0) (.cst (.int 9223372036854775807 100)))] [(14, 0)]
theorem kLaw_8_eq : kx C run lp (kLaw_8 C) ⟨kLaw_T v0 v1 v2 v4 v5 v6 v8 v10 v14 v21 v27 v28 v29 v30 v36 v44, h⟩ = kNrm (moveP 16 v2 h (fun a0 h => load1 a0 h (fun a1 h => lenS a1 h (fun a2 h => cmp igt a2 (.int 9223372036854775807 100) h (fun a3 h => some (.st (kLaw_T v0 v1 v2 v4 v5 v6 v8 v10 a3 v21 v27 v28 v29 v30 v36 v44) h)))))) := rfl
def kLaw_9 (C : Cx) : K := .reg [.mk (o1 moveA (.cst (.bool true)))] [(4, 0)]
theorem kLaw_9_eq : kx C run lp (kLaw_9 C) ⟨kLaw_T v0 v1 v2 v4 v5 v6 v8 v10 v14 v21 v27 v28 v29 v30 v36 v44, h⟩ = kNrm (moveA (.bool true) h (fun a0 h => some (.st (kLaw_T v0 v1 v2 a0 v5 v6 v8 v10 v14 v21 v27 v28 v29 v30 v36 v44) h))) := rfl
def kLaw_10 (_ : Cx) : K := .ex .ret
theorem kLaw_10_eq : kx C run lp (kLaw_10 C) s = some (.ret, s) := rfl
def kLaw_11 (C : Cx) : K := .seq (kLaw_9 C) (kLaw_10 C)
theorem kLaw_11_eq : kx C run lp (kLaw_11 C) s = obind (kx C run lp (kLaw_9 C) s) (kThen (kx C run lp (kLaw_10 C))) := rfl
def kLaw_12 (_ : Cx) : K := .skip
theorem kLaw_12_eq : kx C run lp (kLaw_12 C) s = some (.nrm, s) := rfl
def kLaw_13 (C : Cx) : K := .cond (.tr 14) (kLaw_11 C) (kLaw_12 C)
theorem kLaw_13_eq : kx C run lp (kLaw_13 C) ⟨kLaw_T v0 v1 v2 v4 v5 v6 v8 v10 v14 v21 v27 v28 v29 v30 v36 v44, h⟩ = kIf v14 (kx C run lp (kLaw_11 C)) (kx C run lp (kLaw_12 C)) ⟨kLaw_T v0 v1 v2 v4 v5 v6 v8 v10 v14 v21 v27 v28 v29 v30 v36 v44, h⟩ := rfl
def kLaw_14 (C : Cx) : K := .seq (kLaw_8 C) (kLaw_13 C)
theorem kLaw_14_eq : kx C run lp (kLaw_14 C) s = obind (kx C run lp (kLaw_8 C) s) (kThen (kx C run lp (kLaw_13 C))) := rfl
def kLaw_15 (C : Cx) : K := .reg [.mk (o1 (loadG 18) (.tr 2)), .mk (o1 moveA (.tr 1)), .mk (oCallF 5 [(.st 1), (.st 0)]), .mk (o1 moveA (.st 0))] [(5, 0)]
theorem kLaw_15_eq : kx C run lp (kLaw_15 C) ⟨kLaw_T v0 v1 v2 v4 v5 v6 v8 v10 v14 v21 v27 v28 v29 v30 v36 v44, h⟩ = kNrm (loadG 18 v2 h (fun a0 h => moveA v1 h (fun a1 h => withX (fun a2 h => moveA a2 h (fun a3 h => some (.st (kLaw_T v0 v1 v2 v4 a3 v6 v8 v10 v14 v21 v27 v28 v29 v30 v36 v44) h))) (callA C run 5 [a0, a1] h)))) := rfl
def kLaw_16 (C : Cx) : K := .reg [.mk (o1 moveA (.tr 1)), .mk (o1 moveA (.st 0))] [(6, 0)]
theorem kLaw_16_eq : kx C run lp (kLaw_16 C) ⟨kLaw_T v0 v1 v2 v4 v5 v6 v8 v10 v14 v21 v27 v28 v29 v30 v36 v44, h⟩ = kNrm (moveA v1 h (fun a0 h => moveA a0 h (fun a1 h => some (.st (kLaw_T v0 v1 v2 v4 v5 a1 v8 v10 v14 v21 v27 v28 v29 v30 v36 v44) h)))) := rfl
def kLaw_17 (C : Cx) : K := .reg [.mk (o1 (moveP 15) (.tr 2)), .mk (o1 load1 (.st 0)), .mk (o2 (cmp igt) (.st 0) (.cst (.int 18446744073709551615 0)))] [(21, 0)]
theorem kLaw_17_eq : kx C run lp (kLaw_17 C) ⟨kLaw_T v0 v1 v2 v4 v5 v6 v8 v10 v14 v21 v27 v28 v29 v30 v36 v44, h⟩ = kNrm (moveP 15 v2 h (fun a0 h => load1 a0 h (fun a1 h => cmp igt a1 (.int 18446744073709551615 0) h (fun a2 h => some (.st (kLaw_T v0 v1 v2 v4 v5 v6 v8 v10 v14 a2 v27 v28 v29 v30 v36 v44) h))))) := rfl
def kLaw_18 (C : Cx) : K := .reg [.mk (o1 moveA (.tr 1)), .mk (o1 (moveP 15) (.tr 2)), .mk (o1 load1 (.st 0)), .mk (o2 (remA) (.st 2) (.st 0)), .mk (o1 moveA (.st 0))] [(6, 0)]
theorem kLaw_18_eq : kx C run lp (kLaw_18 C) ⟨kLaw_T v0 v1 v2 v4 v5 v6 v8 v10 v14 v21 v27 v28 v29 v30 v36 v44, h⟩ = kNrm (moveA v1 h (fun a0 h => moveP 15 v2 h (fun a1 h => load1 a1 h (fun a2 h => remA a0 a2 h (fun a3 h => moveA a3 h (fun a4 h => some (.st (kLaw_T v0 v1 v2 v4 v5 a4 v8 v10 v14 v21 v27 v28 v29 v30 v36 v44) h))))))) := rfl
def kLaw_19 (_ : Cx) : K := .skip
theorem kLaw_19_eq : kx C run lp (kLaw_19 C) s = some (.nrm, s) := rfl
def kLaw_20 (C : Cx) : K := .cond (.tr 21) (kLaw_18 C) (kLaw_19 C)
theorem kLaw_20_eq : kx C run lp (kLaw_20 C) ⟨kLaw_T v0 v1 v2 v4 v5 v6 v8 v10 v14 v21 v27 v28 v29 v30 v36 v44, h⟩ = kIf v21 (kx C run lp (kLaw_18 C)) (kx C run lp (kLaw_19 C)) ⟨kLaw_T v0 v1 v2 v4 v5 v6 v8 v10 v14 v21 v27 v28 v29 v30 v36 v44, h⟩ := rfl
def kLaw_21 (C : Cx) : K := .seq (kLaw_17 C) (kLaw_20 C)
theorem kLaw_21_eq : kx C run lp (kLaw_21 C) s = obind (kx C run lp (kLaw_17 C) s) (kThen (kx C run lp (kLaw_20 C))) := rfl
def kLaw_22 (C : Cx) : K := .reg [.mk (o1 (moveP 16) (.tr 2)), .mk (o1 load1 (.st 0)), .mk (o1 lenS (.st 0)), .mk (o1 moveA (.cst (.int 9223372036854775807 0)))] [(29, 0), (28, 1), (27, 2)]
theorem kLaw_22_eq : kx C run lp (kLaw_22 C) ⟨kLaw_T v0 v1 v2 v4 v5 v6 v8 v10 v14 v21 v27 v28 v29 v30 v36 v44, h⟩ = kNrm (moveP 16 v2 h (fun a0 h => load1 a0 h (fun a1 h => lenS a1 h (fun a2 h => moveA (.int 9223372036854775807 0) h (fun a3 h => some (.st (kLaw_T v0 v1 v2 v4 v5 v6 v8 v10 v14 v21 a1 a2 a3 v30 v36 v44) h)))))) := rfl
def kLaw_23 (C : Cx) : K := .reg [.mk (o2 (cmp ilt) (.tr 29) (.tr 28))] [(30, 0)]
theorem kLaw_23_eq : kx C run lp (kLaw_23 C) ⟨kLaw_T v0 v1 v2 v4 v5 v6 v8 v10 v14 v21 v27 v28 v29 v30 v36 v44, h⟩ = kNrm (cmp ilt v29 v28 h (fun a0 h => some (.st (kLaw_T v0 v1 v2 v4 v5 v6 v8 v10 v14 v21 v27 v28 v29 a0 v36 v44) h))) := rfl
def kLaw_24 (_ : Cx) : K := .skip
theorem kLaw_24_eq : kx C run lp (kLaw_24 C) s = some (.nrm, s) := rfl
def kLaw_25 (_ : Cx) : K := .ex (.exit 0)
theorem kLaw_25_eq : kx C run lp (kLaw_25 C) s = some (.exit 0, s) := rfl
def kLaw_26 (C : Cx) : K := .cond (.tr 30) (kLaw_24 C) (kLaw_25 C)
theorem kLaw_26_eq : kx C run lp (kLaw_26 C) ⟨kLaw_T v0 v1 v2 v4 v5 v6 v8 v10 v14 v21 v27 v28 v29 v30 v36 v44, h⟩ = kIf v30 (kx C run lp (kLaw_24 C)) (kx C run lp (kLaw_25 C)) ⟨kLaw_T v0 v1 v2 v4 v5 v6 v8 v10 v14 v21 v27 v28 v29 v30 v36 v44, h⟩ := rfl
def kLaw_27 (C : Cx) : K := .reg [.mk (o2 (idxS 2) (.tr 27) (.tr 29)), .mk (o1 (loadG 2) (.st 0)), .mk (oAlloc 35 [.int 18446744073709551615 0, .int 9223372036854775807 0]), .mk (o2 (storeG 2) (.st 0) (.st 1))] [(8, 1)]
theorem kLaw_27_eq : kx C run lp (kLaw_27 C) ⟨kLaw_T v0 v1 v2 v4 v5 v6 v8 v10 v14 v21 v27 v28 v29 v30 v36 v44, h⟩ = kNrm (idxS 2 v27 v29 h (fun a0 h => loadG 2 a0 h (fun a1 h => newA h (.cells [.int 18446744073709551615 0, .int 9223372036854775807 0] 35) (fun a2 h => storeG 2 a2 a1 h (fun a3 h => some (.st (kLaw_T v0 v1 v2 v4 v5 v6 a2 v10 v14 v21 v27 v28 v29 v30 v36 v44) h)))))) := rfl
def kLaw_28 (C : Cx) : K := .reg [.mk (o1 (moveP 0) (.tr 8)), .mk (o1 load1 (.st 0)), .mk (o1 moveA (.tr 6)), .mk (o2 (cmp ibeq) (.st 1) (.st 0))] [(36, 0)]
theorem kLaw_28_eq : kx C run lp (kLaw_28 C) ⟨kLaw_T v0 v1 v2 v4 v5 v6 v8 v10 v14 v21 v27 v28 v29 v30 v36 v44, h⟩ = kNrm (moveP 0 v8 h (fun a0 h => load1 a0 h (fun a1 h => moveA v6 h (fun a2 h => cmp ibeq a1 a2 h (fun a3 h => some (.st (kLaw_T v0 v1 v2 v4 v5 v6 v8 v10 v14 v21 v27 v28 v29 v30 a3 v44) h)))))) := rfl
def kLaw_29 (C : Cx) : K := .reg [.mk (o1 moveA (.tr 5)), .mk (o1 (moveP 1) (.tr 8)), .mk (o1 load1 (.st 0)), .mk (o2 (cmp ibeq) (.st 2) (.st 0)), .mk (o1 moveA (.st 0))] [(4, 0)]
theorem kLaw_29_eq : kx C run lp (kLaw_29 C) ⟨kLaw_T v0 v1 v2 v4 v5 v6 v8 v10 v14 v21 v27 v28 v29 v30 v36 v44, h⟩ = kNrm (moveA v5 h (fun a0 h => moveP 1 v8 h (fun a1 h => load1 a1 h (fun a2 h => cmp ibeq a0 a2 h (fun a3 h => moveA a3 h (fun a4 h => some (.st (kLaw_T v0 v1 v2 a4 v5 v6 v8 v10 v14 v21 v27 v28 v29 v30 v36 v44) h))))))) := rfl
def kLaw_30 (_ : Cx) : K := .ex .ret
theorem kLaw_30_eq : kx C run lp (kLaw_30 C) s = some (.ret, s) := rfl
def kLaw_31 (C : Cx) : K := .seq (kLaw_29 C) (kLaw_30 C)
theorem kLaw_31_eq : kx C run lp (kLaw_31 C) s = obind (kx C run lp (kLaw_29 C) s) (kThen (kx C run lp (kLaw_30 C))) := rfl
def kLaw_32 (_ : Cx) : K := .skip
theorem kLaw_32_eq : kx C run lp (kLaw_32 C) s = some (.nrm, s) := rfl
def kLaw_33 (C : Cx) : K := .cond (.tr 36) (kLaw_31 C) (kLaw_32 C)
theorem kLaw_33_eq : kx C run lp (kLaw_33 C) ⟨kLaw_T v0 v1 v2 v4 v5 v6 v8 v10 v14 v21 v27 v28 v29 v30 v36 v44, h⟩ = kIf v36 (kx C run lp (kLaw_31 C)) (kx C run lp (kLaw_32 C)) ⟨kLaw_T v0 v1 v2 v4 v5 v6 v8 v10 v14 v21 v27 v28 v29 v30 v36 v44, h⟩ := rfl
def kLaw_34 (C : Cx) : K := .seq (kLaw_28 C) (kLaw_33 C)
theorem kLaw_34_eq : kx C run lp (kLaw_34 C) s = obind (kx C run lp (kLaw_28 C) s) (kThen (kx C run lp (kLaw_33 C))) := rfl
def kLaw_35 (C : Cx) : K := .seq (kLaw_27 C) (kLaw_34 C)
theorem kLaw_35_eq : kx C run lp (kLaw_35 C) s = obind (kx C run lp (kLaw_27 C) s) (kThen (kx C run lp (kLaw_34 C))) := rfl
def kLaw_36 (C : Cx) : K := .block 1 (kLaw_35 C)
theorem kLaw_36_eq : kx C run lp (kLaw_36 C) s = obind (kx C run lp (kLaw_35 C) s) (kOut 1) := rfl
def kLaw_37 (C : Cx) : K := .reg [.mk (o2 (arith iadd) (.tr 29) (.cst (.int 9223372036854775807 1))), .mk (o1 moveA (.st 0))] [(29, 0)]
theorem kLaw_37_eq : kx C run lp (kLaw_37 C) ⟨kLaw_T v0 v1 v2 v4 v5 v6 v8 v10 v14 v21 v27 v28 v29 v30 v36 v44, h⟩ = kNrm (arith iadd v29 (.int 9223372036854775807 1) h (fun a0 h => moveA a0 h (fun a1 h => some (.st (kLaw_T v0 v1 v2 v4 v5 v6 v8 v10 v14 v21 v27 v28 a1 v30 v36 v44) h)))) := rfl
def kLaw_38 (C : Cx) : K := .seq (kLaw_36 C) (kLaw_37 C)
theorem kLaw_38_eq : kx C run lp (kLaw_38 C) s = obind (kx C run lp (kLaw_36 C) s) (kThen (kx C run lp (kLaw_37 C))) := rfl
def kLaw_39 (C : Cx) : K := .seq (kLaw_26 C) (kLaw_38 C)
theorem kLaw_39_eq : kx C run lp (kLaw_39 C) s = obind (kx C run lp (kLaw_26 C) s) (kThen (kx C run lp (kLaw_38 C))) := rfl
def kLaw_40 (C : Cx) : K := .seq (kLaw_23 C) (kLaw_39 C)
theorem kLaw_40_eq : kx C run lp (kLaw_40 C) s = obind (kx C run lp (kLaw_23 C) s) (kThen (kx C run lp (kLaw_39 C))) := rfl
def kLaw_41 (C : Cx) : K := .loop (kLaw_40 C)
theorem kLaw_41_eq : kx C run lp (kLaw_41 C) s = lp (kLaw_40 C) s := rfl
def kLaw_42 (C : Cx) : K := .block 0 (kLaw_41 C)
theorem kLaw_42_eq : kx C run lp (kLaw_42 C) s = obind (kx C run lp (kLaw_41 C) s) (kOut 0) := rfl
def kLaw_43 (C : Cx) : K := .seq (kLaw_22 C) (kLaw_42 C)
theorem kLaw_43_eq : kx C run lp (kLaw_43 C) s = obind (kx C run lp (kLaw_22 C) s) (kThen (kx C run lp (kLaw_42 C))) := rfl
def kLaw_44 (C : Cx) : K := .reg [.mk (o1 (moveP 0) (.tr 2)), .mk (o1 load1 (.st 0)), .mk (o2 (cmp ine) (.st 0) (.cst (.int 9223372036854775807 9)))] [(44, 0)]
theorem kLaw_44_eq : kx C run lp (kLaw_44 C) ⟨kLaw_T v0 v1 v2 v4 v5 v6 v8 v10 v14 v21 v27 v28 v29 v30 v36 v44, h⟩ = kNrm (moveP 0 v2 h (fun a0 h => load1 a0 h (fun a1 h => cmp ine a1 (.int 9223372036854775807 9) h (fun a2 h => some (.st (kLaw_T v0 v1 v2 v4 v5 v6 v8 v10 v14 v21 v27 v28 v29 v30 v36 a2) h))))) := rfl
def kLaw_45 (C : Cx) : K := .reg [.mk (o1 moveA (.tr 5)), .mk (o2 (cmp ibeq) (.st 0) (.cst (.int 9223372036854775807 (-1)))), .mk (o1 moveA (.st 0))] [(4, 0)]
theorem kLaw_45_eq : kx C run lp (kLaw_45 C) ⟨kLaw_T v0 v1 v2 v4 v5 v6 v8 v10 v14 v21 v27 v28 v29 v30 v36 v44, h⟩ = kNrm (moveA v5 h (fun a0 h => cmp ibeq a0 (.int 9223372036854775807 (-1)) h (fun a1 h => moveA a1 h (fun a2 h => some (.st (kLaw_T v0 v1 v2 a2 v5 v6 v8 v10 v14 v21 v27 v28 v29 v30 v36 v44) h))))) := rfl
def kLaw_46 (_ : Cx) : K := .ex .ret
theorem kLaw_46_eq : kx C run lp (kLaw_46 C) s = some (.ret, s) := rfl
def kLaw_47 (C : Cx) : K := .seq (kLaw_45 C) (kLaw_46 C)
theorem kLaw_47_eq : kx C run lp (kLaw_47 C) s = obind (kx C run lp (kLaw_45 C) s) (kThen (kx C run lp (kLaw_46 C))) := rfl
def kLaw_48 (_ : Cx) : K := .skip
theorem kLaw_48_eq : kx C run lp (kLaw_48 C) s = some (.nrm, s) := rfl
def kLaw_49 (C : Cx) : K := .cond (.tr 44) (kLaw_47 C) (kLaw_48 C)
theorem kLaw_49_eq : kx C run lp (kLaw_49 C) ⟨kLaw_T v0 v1 v2 v4 v5 v6 v8 v10 v14 v21 v27 v28 v29 v30 v36 v44, h⟩ = kIf v44 (kx C run lp (kLaw_47 C)) (kx C run lp (kLaw_48 C)) ⟨kLaw_T v0 v1 v2 v4 v5 v6 v8 v10 v14 v21 v27 v28 v29 v30 v36 v44, h⟩ := rfl
def kLaw_50 (C : Cx) : K := .seq (kLaw_44 C) (kLaw_49 C)
theorem kLaw_50_eq : kx C run lp (kLaw_50 C) s = obind (kx C run lp (kLaw_44 C) s) (kThen (kx C run lp (kLaw_49 C))) := rfl
def kLaw_51 (C : Cx) : K := .reg [.mk (o1 moveA (.tr 5)), .mk (o1 (moveP 17) (.tr 2)), .mk (o1 load1 (.st 0)), .mk (o2 (cmp ibeq) (.st 2) (.st 0)), .mk (o1 moveA (.st 0))] [(4, 0)]
theorem kLaw_51_eq : kx C run lp (kLaw_51 C) ⟨kLaw_T v0 v1 v2 v4 v5 v6 v8 v10 v14 v21 v27 v28 v29 v30 v36 v44, h⟩ = kNrm (moveA v5 h (fun a0 h => moveP 17 v2 h (fun a1 h => load1 a1 h (fun a2 h => cmp ibeq a0 a2 h (fun a3 h => moveA a3 h (fun a4 h => some (.st (kLaw_T v0 v1 v2 a4 v5 v6 v8 v10 v14 v21 v27 v28 v29 v30 v36 v44) h))))))) := rfl
def kLaw_52 (_ : Cx) : K := .ex .ret
theorem kLaw_52_eq : kx C run lp (kLaw_52 C) s = some (.ret, s) := rfl
def kLaw_53 (C : Cx) : K := .seq (kLaw_51 C) (kLaw_52 C)
theorem kLaw_53_eq : kx C run lp (kLaw_53 C) s = obind (kx C run lp (kLaw_51 C) s) (kThen (kx C run lp (kLaw_52 C))) := rfl
def kLaw_54 (C : Cx) : K := .seq (kLaw_50 C) (kLaw_53 C)
theorem kLaw_54_eq : kx C run lp (kLaw_54 C) s = obind (kx C run lp (kLaw_50 C) s) (kThen (kx C run lp (kLaw_53 C))) := rfl
def kLaw_55 (C : Cx) : K := .seq (kLaw_43 C) (kLaw_54 C)
theorem kLaw_55_eq : kx C run lp (kLaw_55 C) s = obind (kx C run lp (kLaw_43 C) s) (kThen (kx C run lp (kLaw_54 C))) := rfl
def kLaw_56 (C : Cx) : K := .seq (kLaw_21 C) (kLaw_55 C)
theorem kLaw_56_eq : kx C run lp (kLaw_56 C) s = obind (kx C run lp (kLaw_21 C) s) (kThen (kx C run lp (kLaw_55 C))) := rfl
def kLaw_57 (C : Cx) : K := .seq (kLaw_16 C) (kLaw_56 C)
theorem kLaw_57_eq : kx C run lp (kLaw_57 C) s = obind (kx C run lp (kLaw_16 C) s) (kThen (kx C run lp (kLaw_56 C))) := rfl
def kLaw_58 (C : Cx) : K := .seq (kLaw_15 C) (kLaw_57 C)
theorem kLaw_58_eq : kx C run lp (kLaw_58 C) s = obind (kx C run lp (kLaw_15 C) s) (kThen (kx C run lp (kLaw_57 C))) := rfl
def kLaw_59 (C : Cx) : K := .seq (kLaw_14 C) (kLaw_58 C)
theorem kLaw_59_eq : kx C run lp (kLaw_59 C) s = obind (kx C run lp (kLaw_14 C) s) (kThen (kx C run lp (kLaw_58 C))) := rfl
def kLaw_60 (C : Cx) : K := .seq (kLaw_7 C) (kLaw_59 C)
theorem kLaw_60_eq : kx C run lp (kLaw_60 C) s = obind (kx C run lp (kLaw_7 C) s) (kThen (kx C run lp (kLaw_59 C))) := rfl
def kLaw_61 (C : Cx) : K := .seq (kLaw_0 C) (kLaw_60 C)
theorem kLaw_61_eq : kx C run lp (kLaw_61 C) s = obind (kx C run lp (kLaw_0 C) s) (kThen (kx C run lp (kLaw_60 C))) := rfl
theorem kLaw_ret : endA C [.tmp 4] (.ret, ⟨kLaw_T v0 v1 v2 v4 v5 v6 v8 v10 v14 v21 v27 v28 v29 v30 v36 v44, h⟩) = some (v4, h) := rfl
theorem kLaw_nrm : endA C [.tmp 4] (.nrm, ⟨kLaw_T v0 v1 v2 v4 v5 v6 v8 v10 v14 v21 v27 v28 v29 v30 v36 v44, h⟩) = some (v4, h) := rfl
end
def kLaw_F (C : Cx) : FK := ⟨kLaw_61 C, [0, 1, 2, 4, 5, 6, 8, 10, 14, 21, 27, 28, 29, 30, 36, 44], 51, [.tmp 4]⟩
theorem kLaw_run (C : Cx) (run : Run) (lp : Lp) (x0 x1 : AV) (h : AH) (ho : C.orc 3 = none) (hf : fkAt C 3 = some (kLaw_F C)) : runF C run lp 3 [x0, x1] h = obind (kx C run lp (kLaw_61 C) ⟨kLaw_T x0 x1 .bot .bot .bot .bot .bot .bot .bot .bot .bot .bot .bot .bot .bot .bot, h⟩) (endA C [.tmp 4]) := by
  unfold runF; rw [ho, hf]; rfl

theorem kCase_fk (mx : Int) : fkAt (CL mx) 5 = some (kCase_F (CL mx)) := by kernel_rfl
theorem kLaw_fk (mx : Int) : fkAt (CL mx) 3 = some (kLaw_F (CL mx)) := by kernel_rfl
end
theorem cl_ok {mx : Int} : CxOk Tryz.prog (CL mx) := CxOk.told c0_ok (show ∀ p ∈ [([], AV.bool true)], _ from List.forall_mem_cons.2 ⟨fi_head c0_ok, fun _ h => nomatch h⟩)
/-- The first case with a number. -/
def caseIn : List AV → Int → Option Int
  | .int _ v :: .int _ t :: r, x => if v = x then some t else caseIn r x
  | _, _ => none
/-- Cases, one behind the other. -/
def Pairs (cs : List AV) (m : Nat) : Prop := cs.length = m * 2 ∧ ∀ j, j < m → ∃ u t, cs[j * 2]? = some (.int 18446744073709551615 u) ∧ cs[j * 2 + 1]? = some (.int 9223372036854775807 t)
theorem Pairs.cons {cs : List AV} {m : Nat} (h : Pairs cs (m + 1)) : ∃ u t r, cs = .int 18446744073709551615 u :: .int 9223372036854775807 t :: r ∧ Pairs r m := by
  obtain ⟨h1, h2⟩ := h
  obtain ⟨u, t, g1, g2⟩ := h2 0 (by omega)
  match cs, h1 with
  | [], h => simp at h
  | [_], h => simp at h; omega
  | a :: b :: r, h =>
    simp at g1 g2
    subst g1; subst g2
    refine ⟨u, t, r, rfl, by simp at h; omega, fun j hj => ?_⟩
    obtain ⟨u, t, k1, k2⟩ := h2 (j + 1) (by omega)
    rw [show (j + 1) * 2 = j * 2 + 1 + 1 by omega] at k1 k2
    exact ⟨u, t, k1, k2⟩
theorem cell2 {cs : List AV} {i : Nat} {a b : AV} {rest : List AV} (h : cs.drop (i * 2) = a :: b :: rest) : i * 2 + 2 ≤ cs.length ∧ (cs.drop (i * 2)).take 2 = [a, b] := by
  have hl := congrArg List.length h
  simp at hl
  exact ⟨by omega, by rw [h]; rfl⟩
theorem drop2 {cs : List AV} {i : Nat} {a b : AV} {rest : List AV} (h : cs.drop (i * 2) = a :: b :: rest) : cs.drop ((i + 1) * 2) = rest := by
  rw [show (i + 1) * 2 = i * 2 + 2 by omega, ← List.drop_drop, h]; rfl
theorem case_loop (mx : Int) (sl : AV) (cs : List AV) (len : Nat) (x : Int) (v0 v2 v4 v9 v30 : AV) (hlen : (len : Int) ≤ 9223372036854775807) (hsl : sl = .slp cs len ∨ len = 0) : ∀ (m : Nat) (rest : List AV) (i : Nat) (n : Nat) (h : AH) (v6 v18 v24 : AV), i + m = len → cs.drop (i * 2) = rest → m < n → Pairs rest m →
    ∃ u4 u6 u17 u18 u24 h', (rl (CL mx) n).lp (kCase_24 (CL mx)) ⟨kCase_T v0 (.int 18446744073709551615 x) v2 v4 v6 v9 sl (.int 9223372036854775807 len) (.int 9223372036854775807 i) v18 v24 v30, h⟩ =
      some (match caseIn rest x with | some t => .ret | none => .exit 0, ⟨kCase_T v0 (.int 18446744073709551615 x) v2 u4 u6 v9 sl (.int 9223372036854775807 len) u17 u18 u24 v30, h'⟩) ∧
      (∀ t, caseIn rest x = some t → u4 = .int 9223372036854775807 t) ∧ h.length ≤ h'.length ∧ ∀ n, n < h.length → hget h' n = hget h n := by
  intro m
  induction m with
  | zero =>
    intro rest i n h v6 v18 v24 e hd hn hp
    obtain ⟨n, rfl⟩ : ∃ k, n = k + 1 := ⟨n - 1, by omega⟩
    obtain rfl : rest = [] := List.length_eq_zero_iff.1 (by have := hp.1; omega)
    have hi : ¬ ((i : Int) < (len : Int)) := by omega
    refine ⟨v4, v6, .int 9223372036854775807 i, .bool false, v24, h, ?_, by simp [caseIn], Nat.le_refl _, fun _ _ => rfl⟩
    rw [rl_lp]
    simp only [kNrm_st, obind_some, obind_none, kThen_nrm, kThen_ret, kThen_exit, kOut_nrm, kOut_ret, kOut_exit, kIf_b, bq_true, bq_false, moveA_eq, pickA_eq, boxA_eq, newA_eq, cmp_eq, arith_eq, remA_eq, quoA_eq, notA_eq, negA_eq, cvI_eq, moveP_o, moveP_p, blkC_cells, load1_o, load1_p, loadG_o, loadG_p, store1_o, storeG_o, lenS_nils, lenS_sle, lenS_p, lenS_o, lenT_eq, idxS_p, idxS_o, idxT_eq, idxA_o, idxV1_eq, fld1_eq, fldG_eq, extA_eq, nilCk_o, nilCk_p, strAdd_eq, strCmp_eq, withX_some, withX_none, iaddE, isubE, imulE, iltE, igtE, ileE, igeE, ineE, ibeqE, hget_top, hget_zero, hget_succ, set_top, plains_nil, plains_cons, plain_int, plain_bool, plain_str, plain_nils, plain_slp, plain_sle, plain_nil, plain_pto, plain_ptp, plain_slo, nb_agg, nb_int, nb_bool, nb_str, nb_slp, nb_nils, nb_sle, nb_slo, cells_agg, cells_int, cells_bool, cells_str, List.length_cons, List.length_nil, List.length_append, List.take_succ_cons, List.take_zero, List.drop_succ_cons, List.drop_zero, List.cons_append, List.nil_append, List.append_nil, List.drop_nil, List.take_nil, List.getElem?_cons_zero, List.getElem?_cons_succ, List.set_cons_zero, List.set_cons_succ, Nat.reduceAdd, Nat.reduceMul, Nat.reduceSub, Nat.reduceLeDiff, Nat.reduceEqDiff, Nat.reduceLT, Nat.zero_add, Nat.add_zero, decide_true, decide_false, Bool.and_true, Bool.true_and, Bool.and_false, Bool.false_and, Bool.not_true, Bool.not_false, Nat.le_refl, reduceIte, kCase_0_eq, kCase_1_eq, kCase_2_eq, kCase_3_eq, kCase_4_eq, kCase_5_eq, kCase_6_eq, kCase_7_eq, kCase_8_eq, kCase_9_eq, kCase_10_eq, kCase_11_eq, kCase_12_eq, kCase_13_eq, kCase_14_eq, kCase_15_eq, kCase_16_eq, kCase_17_eq, kCase_18_eq, kCase_19_eq, kCase_20_eq, kCase_21_eq, kCase_22_eq, kCase_23_eq, kCase_24_eq, kCase_25_eq, kCase_26_eq, kCase_27_eq, kCase_28_eq, kCase_29_eq, kCase_30_eq, kCase_31_eq, kCase_32_eq, kCase_33_eq, kCase_34_eq, kCase_35_eq, kCase_36_eq, kCase_37_eq, kCase_38_eq, kCase_39_eq, kCase_40_eq, kCase_41_eq, kCase_ret, kCase_nrm, decide_eq_false hi, caseIn]
  | succ m ih =>
    intro rest i n h v6 v18 v24 e hd hn hp
    obtain ⟨n, rfl⟩ : ∃ k, n = k + 1 := ⟨n - 1, by omega⟩
    obtain ⟨u, t, rest, rfl, hp'⟩ := hp.cons
    obtain rfl : sl = .slp cs len := by rcases hsl with h | h <;> first | exact h | omega
    obtain ⟨c1, c2⟩ := cell2 hd
    have hi : (i : Int) < (len : Int) := by omega
    have hi' : i < len := by omega
    rw [rl_lp]
    simp only [kNrm_st, obind_some, obind_none, kThen_nrm, kThen_ret, kThen_exit, kOut_nrm, kOut_ret, kOut_exit, kIf_b, bq_true, bq_false, moveA_eq, pickA_eq, boxA_eq, newA_eq, cmp_eq, arith_eq, remA_eq, quoA_eq, notA_eq, negA_eq, cvI_eq, moveP_o, moveP_p, blkC_cells, load1_o, load1_p, loadG_o, loadG_p, store1_o, storeG_o, lenS_nils, lenS_sle, lenS_p, lenS_o, lenT_eq, idxS_p, idxS_o, idxT_eq, idxA_o, idxV1_eq, fld1_eq, fldG_eq, extA_eq, nilCk_o, nilCk_p, strAdd_eq, strCmp_eq, withX_some, withX_none, iaddE, isubE, imulE, iltE, igtE, ileE, igeE, ineE, ibeqE, hget_top, hget_zero, hget_succ, set_top, plains_nil, plains_cons, plain_int, plain_bool, plain_str, plain_nils, plain_slp, plain_sle, plain_nil, plain_pto, plain_ptp, plain_slo, nb_agg, nb_int, nb_bool, nb_str, nb_slp, nb_nils, nb_sle, nb_slo, cells_agg, cells_int, cells_bool, cells_str, List.length_cons, List.length_nil, List.length_append, List.take_succ_cons, List.take_zero, List.drop_succ_cons, List.drop_zero, List.cons_append, List.nil_append, List.append_nil, List.drop_nil, List.take_nil, List.getElem?_cons_zero, List.getElem?_cons_succ, List.set_cons_zero, List.set_cons_succ, Nat.reduceAdd, Nat.reduceMul, Nat.reduceSub, Nat.reduceLeDiff, Nat.reduceEqDiff, Nat.reduceLT, Nat.zero_add, Nat.add_zero, decide_true, decide_false, Bool.and_true, Bool.true_and, Bool.and_false, Bool.false_and, Bool.not_true, Bool.not_false, Nat.le_refl, reduceIte, kCase_0_eq, kCase_1_eq, kCase_2_eq, kCase_3_eq, kCase_4_eq, kCase_5_eq, kCase_6_eq, kCase_7_eq, kCase_8_eq, kCase_9_eq, kCase_10_eq, kCase_11_eq, kCase_12_eq, kCase_13_eq, kCase_14_eq, kCase_15_eq, kCase_16_eq, kCase_17_eq, kCase_18_eq, kCase_19_eq, kCase_20_eq, kCase_21_eq, kCase_22_eq, kCase_23_eq, kCase_24_eq, kCase_25_eq, kCase_26_eq, kCase_27_eq, kCase_28_eq, kCase_29_eq, kCase_30_eq, kCase_31_eq, kCase_32_eq, kCase_33_eq, kCase_34_eq, kCase_35_eq, kCase_36_eq, kCase_37_eq, kCase_38_eq, kCase_39_eq, kCase_40_eq, kCase_41_eq, kCase_ret, kCase_nrm, decide_eq_true hi, decide_eq_true hi', decide_eq_true c1, c2]
    by_cases hx : u = x
    · simp only [kNrm_st, obind_some, obind_none, kThen_nrm, kThen_ret, kThen_exit, kOut_nrm, kOut_ret, kOut_exit, kIf_b, bq_true, bq_false, moveA_eq, pickA_eq, boxA_eq, newA_eq, cmp_eq, arith_eq, remA_eq, quoA_eq, notA_eq, negA_eq, cvI_eq, moveP_o, moveP_p, blkC_cells, load1_o, load1_p, loadG_o, loadG_p, store1_o, storeG_o, lenS_nils, lenS_sle, lenS_p, lenS_o, lenT_eq, idxS_p, idxS_o, idxT_eq, idxA_o, idxV1_eq, fld1_eq, fldG_eq, extA_eq, nilCk_o, nilCk_p, strAdd_eq, strCmp_eq, withX_some, withX_none, iaddE, isubE, imulE, iltE, igtE, ileE, igeE, ineE, ibeqE, hget_top, hget_zero, hget_succ, set_top, plains_nil, plains_cons, plain_int, plain_bool, plain_str, plain_nils, plain_slp, plain_sle, plain_nil, plain_pto, plain_ptp, plain_slo, nb_agg, nb_int, nb_bool, nb_str, nb_slp, nb_nils, nb_sle, nb_slo, cells_agg, cells_int, cells_bool, cells_str, List.length_cons, List.length_nil, List.length_append, List.take_succ_cons, List.take_zero, List.drop_succ_cons, List.drop_zero, List.cons_append, List.nil_append, List.append_nil, List.drop_nil, List.take_nil, List.getElem?_cons_zero, List.getElem?_cons_succ, List.set_cons_zero, List.set_cons_succ, Nat.reduceAdd, Nat.reduceMul, Nat.reduceSub, Nat.reduceLeDiff, Nat.reduceEqDiff, Nat.reduceLT, Nat.zero_add, Nat.add_zero, decide_true, decide_false, Bool.and_true, Bool.true_and, Bool.and_false, Bool.false_and, Bool.not_true, Bool.not_false, Nat.le_refl, reduceIte, kCase_0_eq, kCase_1_eq, kCase_2_eq, kCase_3_eq, kCase_4_eq, kCase_5_eq, kCase_6_eq, kCase_7_eq, kCase_8_eq, kCase_9_eq, kCase_10_eq, kCase_11_eq, kCase_12_eq, kCase_13_eq, kCase_14_eq, kCase_15_eq, kCase_16_eq, kCase_17_eq, kCase_18_eq, kCase_19_eq, kCase_20_eq, kCase_21_eq, kCase_22_eq, kCase_23_eq, kCase_24_eq, kCase_25_eq, kCase_26_eq, kCase_27_eq, kCase_28_eq, kCase_29_eq, kCase_30_eq, kCase_31_eq, kCase_32_eq, kCase_33_eq, kCase_34_eq, kCase_35_eq, kCase_36_eq, kCase_37_eq, kCase_38_eq, kCase_39_eq, kCase_40_eq, kCase_41_eq, kCase_ret, kCase_nrm, decide_eq_true hx, caseIn, if_pos hx]
      exact ⟨_, _, _, _, _, _, rfl, by simp, by simp, fun n hn => hget_old hn _⟩
    · simp only [kNrm_st, obind_some, obind_none, kThen_nrm, kThen_ret, kThen_exit, kOut_nrm, kOut_ret, kOut_exit, kIf_b, bq_true, bq_false, moveA_eq, pickA_eq, boxA_eq, newA_eq, cmp_eq, arith_eq, remA_eq, quoA_eq, notA_eq, negA_eq, cvI_eq, moveP_o, moveP_p, blkC_cells, load1_o, load1_p, loadG_o, loadG_p, store1_o, storeG_o, lenS_nils, lenS_sle, lenS_p, lenS_o, lenT_eq, idxS_p, idxS_o, idxT_eq, idxA_o, idxV1_eq, fld1_eq, fldG_eq, extA_eq, nilCk_o, nilCk_p, strAdd_eq, strCmp_eq, withX_some, withX_none, iaddE, isubE, imulE, iltE, igtE, ileE, igeE, ineE, ibeqE, hget_top, hget_zero, hget_succ, set_top, plains_nil, plains_cons, plain_int, plain_bool, plain_str, plain_nils, plain_slp, plain_sle, plain_nil, plain_pto, plain_ptp, plain_slo, nb_agg, nb_int, nb_bool, nb_str, nb_slp, nb_nils, nb_sle, nb_slo, cells_agg, cells_int, cells_bool, cells_str, List.length_cons, List.length_nil, List.length_append, List.take_succ_cons, List.take_zero, List.drop_succ_cons, List.drop_zero, List.cons_append, List.nil_append, List.append_nil, List.drop_nil, List.take_nil, List.getElem?_cons_zero, List.getElem?_cons_succ, List.set_cons_zero, List.set_cons_succ, Nat.reduceAdd, Nat.reduceMul, Nat.reduceSub, Nat.reduceLeDiff, Nat.reduceEqDiff, Nat.reduceLT, Nat.zero_add, Nat.add_zero, decide_true, decide_false, Bool.and_true, Bool.true_and, Bool.and_false, Bool.false_and, Bool.not_true, Bool.not_false, Nat.le_refl, reduceIte, kCase_0_eq, kCase_1_eq, kCase_2_eq, kCase_3_eq, kCase_4_eq, kCase_5_eq, kCase_6_eq, kCase_7_eq, kCase_8_eq, kCase_9_eq, kCase_10_eq, kCase_11_eq, kCase_12_eq, kCase_13_eq, kCase_14_eq, kCase_15_eq, kCase_16_eq, kCase_17_eq, kCase_18_eq, kCase_19_eq, kCase_20_eq, kCase_21_eq, kCase_22_eq, kCase_23_eq, kCase_24_eq, kCase_25_eq, kCase_26_eq, kCase_27_eq, kCase_28_eq, kCase_29_eq, kCase_30_eq, kCase_31_eq, kCase_32_eq, kCase_33_eq, kCase_34_eq, kCase_35_eq, kCase_36_eq, kCase_37_eq, kCase_38_eq, kCase_39_eq, kCase_40_eq, kCase_41_eq, kCase_ret, kCase_nrm, decide_eq_false hx, caseIn, if_neg hx, wrapA_i64 (n := (i : Int) + 1) (by omega) (by omega)]
      obtain ⟨u4, u6, u17, u18, u24, h', e1, e2, e3, e4⟩ := ih rest (i + 1) n (h ++ [some (Blk.cells [AV.int 18446744073709551615 u, AV.int 9223372036854775807 t] (34 + 1))]) (.pto h.length 0) (.bool true) (.bool false) (by omega) (drop2 hd) (by omega) hp'
      refine ⟨u4, u6, u17, u18, u24, h', e1, e2, ?_, fun n hn => ?_⟩
      · simp at e3; omega
      · rw [e4 n (by simp; omega), hget_old hn]
/-- What a slice of cases is. -/
def SlC (sl : AV) (cs : List AV) (len : Nat) : Prop := Pairs cs len ∧ (sl = .slp cs len ∨ (len = 0 ∧ (sl = .nils ∨ sl = .sle)))
theorem SlC.len {sl : AV} {cs : List AV} {len : Nat} (h : SlC sl cs len) (H : AH) (κ : Ka) : lenS sl H κ = κ (.int 9223372036854775807 len) H := by
  rcases h.2 with rfl | ⟨rfl, rfl | rfl⟩ <;> rfl
def caseY (x md : Int) : Int := if md ≠ 0 then x % md else x
def caseR (cs : List AV) (k els y : Int) : Int := match caseIn cs y with | some t => t | none => if k ≠ 9 then -1 else els
theorem case_run (mx : Int) (n : Nat) (k0 md els x : Int) (c1 c2 c3 c4 c5 c6 c7 c8 c9 c10 c11 c12 c13 c14 sl : AV) (cs : List AV) (len : Nat) (hs : SlC sl cs len) (hl : len < n) (hl' : (len : Int) ≤ 9223372036854775807) (hx : 0 ≤ x) (hm : 0 ≤ md) (h : AH) :
    ∃ h', (rl (CL mx) (n + 1)).run 5 [.agg [.int 9223372036854775807 k0, c1, c2, c3, c4, c5, c6, c7, c8, c9, c10, c11, c12, c13, c14, .int 18446744073709551615 md, sl, .int 9223372036854775807 els], .int 18446744073709551615 x] h =
      some (.int 9223372036854775807 (caseR cs k0 els (caseY x md)), h') := by
  rw [rl_run, kCase_run _ _ _ _ _ _ (by kernel_rfl) (kCase_fk mx)]
  have hL := hs.len
  have key : ∀ (y : Int) v1 v9, ∃ h', obind
        (obind
          (obind
            ((rl (CL mx) n).lp (kCase_24 (CL mx)) ⟨kCase_T v1 (.int 18446744073709551615 y) (.pto h.length 0) (.int 9223372036854775807 0) .bot v9 sl (.int 9223372036854775807 len) (.int 9223372036854775807 0) .bot .bot .bot,
              h ++ [some (Blk.cells [.int 9223372036854775807 k0, c1, c2, c3, c4, c5, c6, c7, c8, c9, c10, c11, c12, c13, c14, .int 18446744073709551615 md, sl, .int 9223372036854775807 els] (30 + 1))]⟩)
            (kOut 0))
          (kThen (kx (CL mx) (rl (CL mx) n).run (rl (CL mx) n).lp (kCase_38 (CL mx)))))
        (endA (CL mx) [ResultVar.tmp 4]) = some (.int 9223372036854775807 (caseR cs k0 els y), h') := by
    intro y v1 v9
    obtain ⟨u4, u6, u17, u18, u24, h', e1, e2, e3, e4⟩ := case_loop mx sl cs len y v1 (.pto h.length 0) (.int 9223372036854775807 0) v9 .bot hl' (by rcases hs.2 with h | h <;> simp [h]) len cs 0 n (h ++ [some (Blk.cells [.int 9223372036854775807 k0, c1, c2, c3, c4, c5, c6, c7, c8, c9, c10, c11, c12, c13, c14, .int 18446744073709551615 md, sl, .int 9223372036854775807 els] (30 + 1))]) .bot .bot .bot (by omega) (by simp) hl hs.1
    have g := e4 h.length (by simp)
    rw [hget_top] at g
    rw [show ((0 : Nat) : Int) = 0 from rfl] at e1
    cases hc : caseIn cs y with
    | some t =>
      obtain rfl := e2 t hc
      rw [hc] at e1
      refine ⟨h', ?_⟩
      simp only [e1, kNrm_st, obind_some, obind_none, kThen_nrm, kThen_ret, kThen_exit, kOut_nrm, kOut_ret, kOut_exit, kIf_b, bq_true, bq_false, moveA_eq, pickA_eq, boxA_eq, newA_eq, cmp_eq, arith_eq, remA_eq, quoA_eq, notA_eq, negA_eq, cvI_eq, moveP_o, moveP_p, blkC_cells, load1_o, load1_p, loadG_o, loadG_p, store1_o, storeG_o, lenS_nils, lenS_sle, lenS_p, lenS_o, lenT_eq, idxS_p, idxS_o, idxT_eq, idxA_o, idxV1_eq, fld1_eq, fldG_eq, extA_eq, nilCk_o, nilCk_p, strAdd_eq, strCmp_eq, withX_some, withX_none, iaddE, isubE, imulE, iltE, igtE, ileE, igeE, ineE, ibeqE, hget_top, hget_zero, hget_succ, set_top, plains_nil, plains_cons, plain_int, plain_bool, plain_str, plain_nils, plain_slp, plain_sle, plain_nil, plain_pto, plain_ptp, plain_slo, nb_agg, nb_int, nb_bool, nb_str, nb_slp, nb_nils, nb_sle, nb_slo, cells_agg, cells_int, cells_bool, cells_str, List.length_cons, List.length_nil, List.length_append, List.take_succ_cons, List.take_zero, List.drop_succ_cons, List.drop_zero, List.cons_append, List.nil_append, List.append_nil, List.drop_nil, List.take_nil, List.getElem?_cons_zero, List.getElem?_cons_succ, List.set_cons_zero, List.set_cons_succ, Nat.reduceAdd, Nat.reduceMul, Nat.reduceSub, Nat.reduceLeDiff, Nat.reduceEqDiff, Nat.reduceLT, Nat.zero_add, Nat.add_zero, decide_true, decide_false, Bool.and_true, Bool.true_and, Bool.and_false, Bool.false_and, Bool.not_true, Bool.not_false, Nat.le_refl, reduceIte, kCase_0_eq, kCase_1_eq, kCase_2_eq, kCase_3_eq, kCase_4_eq, kCase_5_eq, kCase_6_eq, kCase_7_eq, kCase_8_eq, kCase_9_eq, kCase_10_eq, kCase_11_eq, kCase_12_eq, kCase_13_eq, kCase_14_eq, kCase_15_eq, kCase_16_eq, kCase_17_eq, kCase_18_eq, kCase_19_eq, kCase_20_eq, kCase_21_eq, kCase_22_eq, kCase_23_eq, kCase_24_eq, kCase_25_eq, kCase_26_eq, kCase_27_eq, kCase_28_eq, kCase_29_eq, kCase_30_eq, kCase_31_eq, kCase_32_eq, kCase_33_eq, kCase_34_eq, kCase_35_eq, kCase_36_eq, kCase_37_eq, kCase_38_eq, kCase_39_eq, kCase_40_eq, kCase_41_eq, kCase_ret, kCase_nrm, caseR, hc]
    | none =>
      rw [hc] at e1
      refine ⟨h', ?_⟩
      by_cases hk : k0 = 9
      · have hk' : ¬ (k0 ≠ 9) := by omega
        simp only [e1, kNrm_st, obind_some, obind_none, kThen_nrm, kThen_ret, kThen_exit, kOut_nrm, kOut_ret, kOut_exit, kIf_b, bq_true, bq_false, moveA_eq, pickA_eq, boxA_eq, newA_eq, cmp_eq, arith_eq, remA_eq, quoA_eq, notA_eq, negA_eq, cvI_eq, moveP_o, moveP_p, blkC_cells, load1_o, load1_p, loadG_o, loadG_p, store1_o, storeG_o, lenS_nils, lenS_sle, lenS_p, lenS_o, lenT_eq, idxS_p, idxS_o, idxT_eq, idxA_o, idxV1_eq, fld1_eq, fldG_eq, extA_eq, nilCk_o, nilCk_p, strAdd_eq, strCmp_eq, withX_some, withX_none, iaddE, isubE, imulE, iltE, igtE, ileE, igeE, ineE, ibeqE, hget_top, hget_zero, hget_succ, set_top, plains_nil, plains_cons, plain_int, plain_bool, plain_str, plain_nils, plain_slp, plain_sle, plain_nil, plain_pto, plain_ptp, plain_slo, nb_agg, nb_int, nb_bool, nb_str, nb_slp, nb_nils, nb_sle, nb_slo, cells_agg, cells_int, cells_bool, cells_str, List.length_cons, List.length_nil, List.length_append, List.take_succ_cons, List.take_zero, List.drop_succ_cons, List.drop_zero, List.cons_append, List.nil_append, List.append_nil, List.drop_nil, List.take_nil, List.getElem?_cons_zero, List.getElem?_cons_succ, List.set_cons_zero, List.set_cons_succ, Nat.reduceAdd, Nat.reduceMul, Nat.reduceSub, Nat.reduceLeDiff, Nat.reduceEqDiff, Nat.reduceLT, Nat.zero_add, Nat.add_zero, decide_true, decide_false, Bool.and_true, Bool.true_and, Bool.and_false, Bool.false_and, Bool.not_true, Bool.not_false, Nat.le_refl, reduceIte, kCase_0_eq, kCase_1_eq, kCase_2_eq, kCase_3_eq, kCase_4_eq, kCase_5_eq, kCase_6_eq, kCase_7_eq, kCase_8_eq, kCase_9_eq, kCase_10_eq, kCase_11_eq, kCase_12_eq, kCase_13_eq, kCase_14_eq, kCase_15_eq, kCase_16_eq, kCase_17_eq, kCase_18_eq, kCase_19_eq, kCase_20_eq, kCase_21_eq, kCase_22_eq, kCase_23_eq, kCase_24_eq, kCase_25_eq, kCase_26_eq, kCase_27_eq, kCase_28_eq, kCase_29_eq, kCase_30_eq, kCase_31_eq, kCase_32_eq, kCase_33_eq, kCase_34_eq, kCase_35_eq, kCase_36_eq, kCase_37_eq, kCase_38_eq, kCase_39_eq, kCase_40_eq, kCase_41_eq, kCase_ret, kCase_nrm, caseR, hc, g, decide_eq_false hk', if_neg hk']
      · simp only [e1, kNrm_st, obind_some, obind_none, kThen_nrm, kThen_ret, kThen_exit, kOut_nrm, kOut_ret, kOut_exit, kIf_b, bq_true, bq_false, moveA_eq, pickA_eq, boxA_eq, newA_eq, cmp_eq, arith_eq, remA_eq, quoA_eq, notA_eq, negA_eq, cvI_eq, moveP_o, moveP_p, blkC_cells, load1_o, load1_p, loadG_o, loadG_p, store1_o, storeG_o, lenS_nils, lenS_sle, lenS_p, lenS_o, lenT_eq, idxS_p, idxS_o, idxT_eq, idxA_o, idxV1_eq, fld1_eq, fldG_eq, extA_eq, nilCk_o, nilCk_p, strAdd_eq, strCmp_eq, withX_some, withX_none, iaddE, isubE, imulE, iltE, igtE, ileE, igeE, ineE, ibeqE, hget_top, hget_zero, hget_succ, set_top, plains_nil, plains_cons, plain_int, plain_bool, plain_str, plain_nils, plain_slp, plain_sle, plain_nil, plain_pto, plain_ptp, plain_slo, nb_agg, nb_int, nb_bool, nb_str, nb_slp, nb_nils, nb_sle, nb_slo, cells_agg, cells_int, cells_bool, cells_str, List.length_cons, List.length_nil, List.length_append, List.take_succ_cons, List.take_zero, List.drop_succ_cons, List.drop_zero, List.cons_append, List.nil_append, List.append_nil, List.drop_nil, List.take_nil, List.getElem?_cons_zero, List.getElem?_cons_succ, List.set_cons_zero, List.set_cons_succ, Nat.reduceAdd, Nat.reduceMul, Nat.reduceSub, Nat.reduceLeDiff, Nat.reduceEqDiff, Nat.reduceLT, Nat.zero_add, Nat.add_zero, decide_true, decide_false, Bool.and_true, Bool.true_and, Bool.and_false, Bool.false_and, Bool.not_true, Bool.not_false, Nat.le_refl, reduceIte, kCase_0_eq, kCase_1_eq, kCase_2_eq, kCase_3_eq, kCase_4_eq, kCase_5_eq, kCase_6_eq, kCase_7_eq, kCase_8_eq, kCase_9_eq, kCase_10_eq, kCase_11_eq, kCase_12_eq, kCase_13_eq, kCase_14_eq, kCase_15_eq, kCase_16_eq, kCase_17_eq, kCase_18_eq, kCase_19_eq, kCase_20_eq, kCase_21_eq, kCase_22_eq, kCase_23_eq, kCase_24_eq, kCase_25_eq, kCase_26_eq, kCase_27_eq, kCase_28_eq, kCase_29_eq, kCase_30_eq, kCase_31_eq, kCase_32_eq, kCase_33_eq, kCase_34_eq, kCase_35_eq, kCase_36_eq, kCase_37_eq, kCase_38_eq, kCase_39_eq, kCase_40_eq, kCase_41_eq, kCase_ret, kCase_nrm, caseR, hc, g, decide_eq_true hk, if_pos hk]
  by_cases h0 : md = 0
  · have h0' : ¬ (md ≠ 0) := by omega
    obtain ⟨h', e⟩ := key x (.agg [.int 9223372036854775807 k0, c1, c2, c3, c4, c5, c6, c7, c8, c9, c10, c11, c12, c13, c14, .int 18446744073709551615 md, sl, .int 9223372036854775807 els]) (.bool false)
    refine ⟨h', ?_⟩
    simp only [kNrm_st, obind_some, obind_none, kThen_nrm, kThen_ret, kThen_exit, kOut_nrm, kOut_ret, kOut_exit, kIf_b, bq_true, bq_false, moveA_eq, pickA_eq, boxA_eq, newA_eq, cmp_eq, arith_eq, remA_eq, quoA_eq, notA_eq, negA_eq, cvI_eq, moveP_o, moveP_p, blkC_cells, load1_o, load1_p, loadG_o, loadG_p, store1_o, storeG_o, lenS_nils, lenS_sle, lenS_p, lenS_o, lenT_eq, idxS_p, idxS_o, idxT_eq, idxA_o, idxV1_eq, fld1_eq, fldG_eq, extA_eq, nilCk_o, nilCk_p, strAdd_eq, strCmp_eq, withX_some, withX_none, iaddE, isubE, imulE, iltE, igtE, ileE, igeE, ineE, ibeqE, hget_top, hget_zero, hget_succ, set_top, plains_nil, plains_cons, plain_int, plain_bool, plain_str, plain_nils, plain_slp, plain_sle, plain_nil, plain_pto, plain_ptp, plain_slo, nb_agg, nb_int, nb_bool, nb_str, nb_slp, nb_nils, nb_sle, nb_slo, cells_agg, cells_int, cells_bool, cells_str, List.length_cons, List.length_nil, List.length_append, List.take_succ_cons, List.take_zero, List.drop_succ_cons, List.drop_zero, List.cons_append, List.nil_append, List.append_nil, List.drop_nil, List.take_nil, List.getElem?_cons_zero, List.getElem?_cons_succ, List.set_cons_zero, List.set_cons_succ, Nat.reduceAdd, Nat.reduceMul, Nat.reduceSub, Nat.reduceLeDiff, Nat.reduceEqDiff, Nat.reduceLT, Nat.zero_add, Nat.add_zero, decide_true, decide_false, Bool.and_true, Bool.true_and, Bool.and_false, Bool.false_and, Bool.not_true, Bool.not_false, Nat.le_refl, reduceIte, kCase_0_eq, kCase_1_eq, kCase_2_eq, kCase_3_eq, kCase_4_eq, kCase_5_eq, kCase_6_eq, kCase_7_eq, kCase_8_eq, kCase_9_eq, kCase_10_eq, kCase_11_eq, kCase_12_eq, kCase_13_eq, kCase_14_eq, kCase_15_eq, kCase_16_eq, kCase_17_eq, kCase_18_eq, kCase_19_eq, kCase_20_eq, kCase_21_eq, kCase_22_eq, kCase_23_eq, kCase_24_eq, kCase_25_eq, kCase_26_eq, kCase_27_eq, kCase_28_eq, kCase_29_eq, kCase_30_eq, kCase_31_eq, kCase_32_eq, kCase_33_eq, kCase_34_eq, kCase_35_eq, kCase_36_eq, kCase_37_eq, kCase_38_eq, kCase_39_eq, kCase_40_eq, kCase_41_eq, kCase_ret, kCase_nrm, decide_eq_false h0', hL, caseY, if_neg h0', e]
  · obtain ⟨h', e⟩ := key (x % md) (.agg [.int 9223372036854775807 k0, c1, c2, c3, c4, c5, c6, c7, c8, c9, c10, c11, c12, c13, c14, .int 18446744073709551615 md, sl, .int 9223372036854775807 els]) (.bool true)
    refine ⟨h', ?_⟩
    simp only [kNrm_st, obind_some, obind_none, kThen_nrm, kThen_ret, kThen_exit, kOut_nrm, kOut_ret, kOut_exit, kIf_b, bq_true, bq_false, moveA_eq, pickA_eq, boxA_eq, newA_eq, cmp_eq, arith_eq, remA_eq, quoA_eq, notA_eq, negA_eq, cvI_eq, moveP_o, moveP_p, blkC_cells, load1_o, load1_p, loadG_o, loadG_p, store1_o, storeG_o, lenS_nils, lenS_sle, lenS_p, lenS_o, lenT_eq, idxS_p, idxS_o, idxT_eq, idxA_o, idxV1_eq, fld1_eq, fldG_eq, extA_eq, nilCk_o, nilCk_p, strAdd_eq, strCmp_eq, withX_some, withX_none, iaddE, isubE, imulE, iltE, igtE, ileE, igeE, ineE, ibeqE, hget_top, hget_zero, hget_succ, set_top, plains_nil, plains_cons, plain_int, plain_bool, plain_str, plain_nils, plain_slp, plain_sle, plain_nil, plain_pto, plain_ptp, plain_slo, nb_agg, nb_int, nb_bool, nb_str, nb_slp, nb_nils, nb_sle, nb_slo, cells_agg, cells_int, cells_bool, cells_str, List.length_cons, List.length_nil, List.length_append, List.take_succ_cons, List.take_zero, List.drop_succ_cons, List.drop_zero, List.cons_append, List.nil_append, List.append_nil, List.drop_nil, List.take_nil, List.getElem?_cons_zero, List.getElem?_cons_succ, List.set_cons_zero, List.set_cons_succ, Nat.reduceAdd, Nat.reduceMul, Nat.reduceSub, Nat.reduceLeDiff, Nat.reduceEqDiff, Nat.reduceLT, Nat.zero_add, Nat.add_zero, decide_true, decide_false, Bool.and_true, Bool.true_and, Bool.and_false, Bool.false_and, Bool.not_true, Bool.not_false, Nat.le_refl, reduceIte, kCase_0_eq, kCase_1_eq, kCase_2_eq, kCase_3_eq, kCase_4_eq, kCase_5_eq, kCase_6_eq, kCase_7_eq, kCase_8_eq, kCase_9_eq, kCase_10_eq, kCase_11_eq, kCase_12_eq, kCase_13_eq, kCase_14_eq, kCase_15_eq, kCase_16_eq, kCase_17_eq, kCase_18_eq, kCase_19_eq, kCase_20_eq, kCase_21_eq, kCase_22_eq, kCase_23_eq, kCase_24_eq, kCase_25_eq, kCase_26_eq, kCase_27_eq, kCase_28_eq, kCase_29_eq, kCase_30_eq, kCase_31_eq, kCase_32_eq, kCase_33_eq, kCase_34_eq, kCase_35_eq, kCase_36_eq, kCase_37_eq, kCase_38_eq, kCase_39_eq, kCase_40_eq, kCase_41_eq, kCase_ret, kCase_nrm, decide_eq_true h0, hL, caseY, if_pos h0, irem_pos hx hm, e]

theorem law_loop (mx : Int) (sl : AV) (cs : List AV) (len : Nat) (y g : Int) (v0 v1 v2 v4 v10 v14 v21 v44 : AV) (hlen : (len : Int) ≤ 9223372036854775807) (hsl : sl = .slp cs len ∨ len = 0) : ∀ (m : Nat) (rest : List AV) (i : Nat) (n : Nat) (h : AH) (v8 v30 v36 : AV), i + m = len → cs.drop (i * 2) = rest → m < n → Pairs rest m →
    ∃ u4 u8 u29 u30 u36 h', (rl (CL mx) n).lp (kLaw_40 (CL mx)) ⟨kLaw_T v0 v1 v2 v4 (.int 9223372036854775807 g) (.int 18446744073709551615 y) v8 v10 v14 v21 sl (.int 9223372036854775807 len) (.int 9223372036854775807 i) v30 v36 v44, h⟩ =
      some (match caseIn rest y with | some t => .ret | none => .exit 0, ⟨kLaw_T v0 v1 v2 u4 (.int 9223372036854775807 g) (.int 18446744073709551615 y) u8 v10 v14 v21 sl (.int 9223372036854775807 len) u29 u30 u36 v44, h'⟩) ∧
      (∀ t, caseIn rest y = some t → u4 = .bool (decide (g = t))) ∧ h.length ≤ h'.length ∧ ∀ n, n < h.length → hget h' n = hget h n := by
  intro m
  induction m with
  | zero =>
    intro rest i n h v8 v30 v36 e hd hn hp
    obtain ⟨n, rfl⟩ : ∃ k, n = k + 1 := ⟨n - 1, by omega⟩
    obtain rfl : rest = [] := List.length_eq_zero_iff.1 (by have := hp.1; omega)
    have hi : ¬ ((i : Int) < (len : Int)) := by omega
    refine ⟨v4, v8, .int 9223372036854775807 i, .bool false, v36, h, ?_, by simp [caseIn], Nat.le_refl _, fun _ _ => rfl⟩
    rw [rl_lp]
    simp only [kNrm_st, obind_some, obind_none, kThen_nrm, kThen_ret, kThen_exit, kOut_nrm, kOut_ret, kOut_exit, kIf_b, bq_true, bq_false, moveA_eq, pickA_eq, boxA_eq, newA_eq, cmp_eq, arith_eq, remA_eq, quoA_eq, notA_eq, negA_eq, cvI_eq, moveP_o, moveP_p, blkC_cells, load1_o, load1_p, loadG_o, loadG_p, store1_o, storeG_o, lenS_nils, lenS_sle, lenS_p, lenS_o, lenT_eq, idxS_p, idxS_o, idxT_eq, idxA_o, idxV1_eq, fld1_eq, fldG_eq, extA_eq, nilCk_o, nilCk_p, strAdd_eq, strCmp_eq, withX_some, withX_none, iaddE, isubE, imulE, iltE, igtE, ileE, igeE, ineE, ibeqE, hget_top, hget_zero, hget_succ, set_top, plains_nil, plains_cons, plain_int, plain_bool, plain_str, plain_nils, plain_slp, plain_sle, plain_nil, plain_pto, plain_ptp, plain_slo, nb_agg, nb_int, nb_bool, nb_str, nb_slp, nb_nils, nb_sle, nb_slo, cells_agg, cells_int, cells_bool, cells_str, List.length_cons, List.length_nil, List.length_append, List.take_succ_cons, List.take_zero, List.drop_succ_cons, List.drop_zero, List.cons_append, List.nil_append, List.append_nil, List.drop_nil, List.take_nil, List.getElem?_cons_zero, List.getElem?_cons_succ, List.set_cons_zero, List.set_cons_succ, Nat.reduceAdd, Nat.reduceMul, Nat.reduceSub, Nat.reduceLeDiff, Nat.reduceEqDiff, Nat.reduceLT, Nat.zero_add, Nat.add_zero, decide_true, decide_false, Bool.and_true, Bool.true_and, Bool.and_false, Bool.false_and, Bool.not_true, Bool.not_false, Nat.le_refl, reduceIte, kLaw_0_eq, kLaw_1_eq, kLaw_2_eq, kLaw_3_eq, kLaw_4_eq, kLaw_5_eq, kLaw_6_eq, kLaw_7_eq, kLaw_8_eq, kLaw_9_eq, kLaw_10_eq, kLaw_11_eq, kLaw_12_eq, kLaw_13_eq, kLaw_14_eq, kLaw_15_eq, kLaw_16_eq, kLaw_17_eq, kLaw_18_eq, kLaw_19_eq, kLaw_20_eq, kLaw_21_eq, kLaw_22_eq, kLaw_23_eq, kLaw_24_eq, kLaw_25_eq, kLaw_26_eq, kLaw_27_eq, kLaw_28_eq, kLaw_29_eq, kLaw_30_eq, kLaw_31_eq, kLaw_32_eq, kLaw_33_eq, kLaw_34_eq, kLaw_35_eq, kLaw_36_eq, kLaw_37_eq, kLaw_38_eq, kLaw_39_eq, kLaw_40_eq, kLaw_41_eq, kLaw_42_eq, kLaw_43_eq, kLaw_44_eq, kLaw_45_eq, kLaw_46_eq, kLaw_47_eq, kLaw_48_eq, kLaw_49_eq, kLaw_50_eq, kLaw_51_eq, kLaw_52_eq, kLaw_53_eq, kLaw_54_eq, kLaw_55_eq, kLaw_56_eq, kLaw_57_eq, kLaw_58_eq, kLaw_59_eq, kLaw_60_eq, kLaw_61_eq, kLaw_ret, kLaw_nrm, decide_eq_false hi, caseIn]
  | succ m ih =>
    intro rest i n h v8 v30 v36 e hd hn hp
    obtain ⟨n, rfl⟩ : ∃ k, n = k + 1 := ⟨n - 1, by omega⟩
    obtain ⟨u, t, rest, rfl, hp'⟩ := hp.cons
    obtain rfl : sl = .slp cs len := by rcases hsl with h | h <;> first | exact h | omega
    obtain ⟨c1, c2⟩ := cell2 hd
    have hi : (i : Int) < (len : Int) := by omega
    have hi' : i < len := by omega
    rw [rl_lp]
    simp only [kNrm_st, obind_some, obind_none, kThen_nrm, kThen_ret, kThen_exit, kOut_nrm, kOut_ret, kOut_exit, kIf_b, bq_true, bq_false, moveA_eq, pickA_eq, boxA_eq, newA_eq, cmp_eq, arith_eq, remA_eq, quoA_eq, notA_eq, negA_eq, cvI_eq, moveP_o, moveP_p, blkC_cells, load1_o, load1_p, loadG_o, loadG_p, store1_o, storeG_o, lenS_nils, lenS_sle, lenS_p, lenS_o, lenT_eq, idxS_p, idxS_o, idxT_eq, idxA_o, idxV1_eq, fld1_eq, fldG_eq, extA_eq, nilCk_o, nilCk_p, strAdd_eq, strCmp_eq, withX_some, withX_none, iaddE, isubE, imulE, iltE, igtE, ileE, igeE, ineE, ibeqE, hget_top, hget_zero, hget_succ, set_top, plains_nil, plains_cons, plain_int, plain_bool, plain_str, plain_nils, plain_slp, plain_sle, plain_nil, plain_pto, plain_ptp, plain_slo, nb_agg, nb_int, nb_bool, nb_str, nb_slp, nb_nils, nb_sle, nb_slo, cells_agg, cells_int, cells_bool, cells_str, List.length_cons, List.length_nil, List.length_append, List.take_succ_cons, List.take_zero, List.drop_succ_cons, List.drop_zero, List.cons_append, List.nil_append, List.append_nil, List.drop_nil, List.take_nil, List.getElem?_cons_zero, List.getElem?_cons_succ, List.set_cons_zero, List.set_cons_succ, Nat.reduceAdd, Nat.reduceMul, Nat.reduceSub, Nat.reduceLeDiff, Nat.reduceEqDiff, Nat.reduceLT, Nat.zero_add, Nat.add_zero, decide_true, decide_false, Bool.and_true, Bool.true_and, Bool.and_false, Bool.false_and, Bool.not_true, Bool.not_false, Nat.le_refl, reduceIte, kLaw_0_eq, kLaw_1_eq, kLaw_2_eq, kLaw_3_eq, kLaw_4_eq, kLaw_5_eq, kLaw_6_eq, kLaw_7_eq, kLaw_8_eq, kLaw_9_eq, kLaw_10_eq, kLaw_11_eq, kLaw_12_eq, kLaw_13_eq, kLaw_14_eq, kLaw_15_eq, kLaw_16_eq, kLaw_17_eq, kLaw_18_eq, kLaw_19_eq, kLaw_20_eq, kLaw_21_eq, kLaw_22_eq, kLaw_23_eq, kLaw_24_eq, kLaw_25_eq, kLaw_26_eq, kLaw_27_eq, kLaw_28_eq, kLaw_29_eq, kLaw_30_eq, kLaw_31_eq, kLaw_32_eq, kLaw_33_eq, kLaw_34_eq, kLaw_35_eq, kLaw_36_eq, kLaw_37_eq, kLaw_38_eq, kLaw_39_eq, kLaw_40_eq, kLaw_41_eq, kLaw_42_eq, kLaw_43_eq, kLaw_44_eq, kLaw_45_eq, kLaw_46_eq, kLaw_47_eq, kLaw_48_eq, kLaw_49_eq, kLaw_50_eq, kLaw_51_eq, kLaw_52_eq, kLaw_53_eq, kLaw_54_eq, kLaw_55_eq, kLaw_56_eq, kLaw_57_eq, kLaw_58_eq, kLaw_59_eq, kLaw_60_eq, kLaw_61_eq, kLaw_ret, kLaw_nrm, decide_eq_true hi, decide_eq_true hi', decide_eq_true c1, c2]
    by_cases hx : u = y
    · simp only [kNrm_st, obind_some, obind_none, kThen_nrm, kThen_ret, kThen_exit, kOut_nrm, kOut_ret, kOut_exit, kIf_b, bq_true, bq_false, moveA_eq, pickA_eq, boxA_eq, newA_eq, cmp_eq, arith_eq, remA_eq, quoA_eq, notA_eq, negA_eq, cvI_eq, moveP_o, moveP_p, blkC_cells, load1_o, load1_p, loadG_o, loadG_p, store1_o, storeG_o, lenS_nils, lenS_sle, lenS_p, lenS_o, lenT_eq, idxS_p, idxS_o, idxT_eq, idxA_o, idxV1_eq, fld1_eq, fldG_eq, extA_eq, nilCk_o, nilCk_p, strAdd_eq, strCmp_eq, withX_some, withX_none, iaddE, isubE, imulE, iltE, igtE, ileE, igeE, ineE, ibeqE, hget_top, hget_zero, hget_succ, set_top, plains_nil, plains_cons, plain_int, plain_bool, plain_str, plain_nils, plain_slp, plain_sle, plain_nil, plain_pto, plain_ptp, plain_slo, nb_agg, nb_int, nb_bool, nb_str, nb_slp, nb_nils, nb_sle, nb_slo, cells_agg, cells_int, cells_bool, cells_str, List.length_cons, List.length_nil, List.length_append, List.take_succ_cons, List.take_zero, List.drop_succ_cons, List.drop_zero, List.cons_append, List.nil_append, List.append_nil, List.drop_nil, List.take_nil, List.getElem?_cons_zero, List.getElem?_cons_succ, List.set_cons_zero, List.set_cons_succ, Nat.reduceAdd, Nat.reduceMul, Nat.reduceSub, Nat.reduceLeDiff, Nat.reduceEqDiff, Nat.reduceLT, Nat.zero_add, Nat.add_zero, decide_true, decide_false, Bool.and_true, Bool.true_and, Bool.and_false, Bool.false_and, Bool.not_true, Bool.not_false, Nat.le_refl, reduceIte, kLaw_0_eq, kLaw_1_eq, kLaw_2_eq, kLaw_3_eq, kLaw_4_eq, kLaw_5_eq, kLaw_6_eq, kLaw_7_eq, kLaw_8_eq, kLaw_9_eq, kLaw_10_eq, kLaw_11_eq, kLaw_12_eq, kLaw_13_eq, kLaw_14_eq, kLaw_15_eq, kLaw_16_eq, kLaw_17_eq, kLaw_18_eq, kLaw_19_eq, kLaw_20_eq, kLaw_21_eq, kLaw_22_eq, kLaw_23_eq, kLaw_24_eq, kLaw_25_eq, kLaw_26_eq, kLaw_27_eq, kLaw_28_eq, kLaw_29_eq, kLaw_30_eq, kLaw_31_eq, kLaw_32_eq, kLaw_33_eq, kLaw_34_eq, kLaw_35_eq, kLaw_36_eq, kLaw_37_eq, kLaw_38_eq, kLaw_39_eq, kLaw_40_eq, kLaw_41_eq, kLaw_42_eq, kLaw_43_eq, kLaw_44_eq, kLaw_45_eq, kLaw_46_eq, kLaw_47_eq, kLaw_48_eq, kLaw_49_eq, kLaw_50_eq, kLaw_51_eq, kLaw_52_eq, kLaw_53_eq, kLaw_54_eq, kLaw_55_eq, kLaw_56_eq, kLaw_57_eq, kLaw_58_eq, kLaw_59_eq, kLaw_60_eq, kLaw_61_eq, kLaw_ret, kLaw_nrm, decide_eq_true hx, caseIn, if_pos hx]
      exact ⟨_, _, _, _, _, _, rfl, by simp, by simp, fun n hn => hget_old hn _⟩
    · simp only [kNrm_st, obind_some, obind_none, kThen_nrm, kThen_ret, kThen_exit, kOut_nrm, kOut_ret, kOut_exit, kIf_b, bq_true, bq_false, moveA_eq, pickA_eq, boxA_eq, newA_eq, cmp_eq, arith_eq, remA_eq, quoA_eq, notA_eq, negA_eq, cvI_eq, moveP_o, moveP_p, blkC_cells, load1_o, load1_p, loadG_o, loadG_p, store1_o, storeG_o, lenS_nils, lenS_sle, lenS_p, lenS_o, lenT_eq, idxS_p, idxS_o, idxT_eq, idxA_o, idxV1_eq, fld1_eq, fldG_eq, extA_eq, nilCk_o, nilCk_p, strAdd_eq, strCmp_eq, withX_some, withX_none, iaddE, isubE, imulE, iltE, igtE, ileE, igeE, ineE, ibeqE, hget_top, hget_zero, hget_succ, set_top, plains_nil, plains_cons, plain_int, plain_bool, plain_str, plain_nils, plain_slp, plain_sle, plain_nil, plain_pto, plain_ptp, plain_slo, nb_agg, nb_int, nb_bool, nb_str, nb_slp, nb_nils, nb_sle, nb_slo, cells_agg, cells_int, cells_bool, cells_str, List.length_cons, List.length_nil, List.length_append, List.take_succ_cons, List.take_zero, List.drop_succ_cons, List.drop_zero, List.cons_append, List.nil_append, List.append_nil, List.drop_nil, List.take_nil, List.getElem?_cons_zero, List.getElem?_cons_succ, List.set_cons_zero, List.set_cons_succ, Nat.reduceAdd, Nat.reduceMul, Nat.reduceSub, Nat.reduceLeDiff, Nat.reduceEqDiff, Nat.reduceLT, Nat.zero_add, Nat.add_zero, decide_true, decide_false, Bool.and_true, Bool.true_and, Bool.and_false, Bool.false_and, Bool.not_true, Bool.not_false, Nat.le_refl, reduceIte, kLaw_0_eq, kLaw_1_eq, kLaw_2_eq, kLaw_3_eq, kLaw_4_eq, kLaw_5_eq, kLaw_6_eq, kLaw_7_eq, kLaw_8_eq, kLaw_9_eq, kLaw_10_eq, kLaw_11_eq, kLaw_12_eq, kLaw_13_eq, kLaw_14_eq, kLaw_15_eq, kLaw_16_eq, kLaw_17_eq, kLaw_18_eq, kLaw_19_eq, kLaw_20_eq, kLaw_21_eq, kLaw_22_eq, kLaw_23_eq, kLaw_24_eq, kLaw_25_eq, kLaw_26_eq, kLaw_27_eq, kLaw_28_eq, kLaw_29_eq, kLaw_30_eq, kLaw_31_eq, kLaw_32_eq, kLaw_33_eq, kLaw_34_eq, kLaw_35_eq, kLaw_36_eq, kLaw_37_eq, kLaw_38_eq, kLaw_39_eq, kLaw_40_eq, kLaw_41_eq, kLaw_42_eq, kLaw_43_eq, kLaw_44_eq, kLaw_45_eq, kLaw_46_eq, kLaw_47_eq, kLaw_48_eq, kLaw_49_eq, kLaw_50_eq, kLaw_51_eq, kLaw_52_eq, kLaw_53_eq, kLaw_54_eq, kLaw_55_eq, kLaw_56_eq, kLaw_57_eq, kLaw_58_eq, kLaw_59_eq, kLaw_60_eq, kLaw_61_eq, kLaw_ret, kLaw_nrm, decide_eq_false hx, caseIn, if_neg hx, wrapA_i64 (n := (i : Int) + 1) (by omega) (by omega)]
      obtain ⟨u4, u8, u29, u30, u36, h', e1, e2, e3, e4⟩ := ih rest (i + 1) n (h ++ [some (Blk.cells [AV.int 18446744073709551615 u, AV.int 9223372036854775807 t] (34 + 1))]) (.pto h.length 0) (.bool true) (.bool false) (by omega) (drop2 hd) (by omega) hp'
      refine ⟨u4, u8, u29, u30, u36, h', e1, e2, ?_, fun n hn => ?_⟩
      · simp at e3; omega
      · rw [e4 n (by simp; omega), hget_old hn]
theorem law_run (mx : Int) (n : Nat) (k0 md els x : Int) (c1 c2 c3 c4 c5 c6 c7 c8 c9 c10 c11 c12 c13 c14 sl : AV) (cs : List AV) (len : Nat) (hs : SlC sl cs len) (hn : 200 ≤ n) (hl' : (len : Int) ≤ 9223372036854775807) (hx : 0 ≤ x) (hm : 0 ≤ md)
    (hp : ltL 0 [.int 9223372036854775807 k0, c1, c2, c3, c4, c5, c6, c7, c8, c9, c10, c11, c12, c13, c14, .int 18446744073709551615 md, sl, .int 9223372036854775807 els] = true) :
    ∃ h', (rl (CL mx) (n + 1)).run 3 [.agg [.int 9223372036854775807 k0, c1, c2, c3, c4, c5, c6, c7, c8, c9, c10, c11, c12, c13, c14, .int 18446744073709551615 md, sl, .int 9223372036854775807 els], .int 18446744073709551615 x] [] =
      some (.bool true, h') := by
  rw [rl_run, kLaw_run _ _ _ _ _ _ (by kernel_rfl) (kLaw_fk mx)]
  have hL := hs.len
  have hfills := fun h => callA_memo (C := CL mx) (run := (rl (CL mx) n).run) (h := h) (f := 4) (args := []) (v := .bool true) (by kernel_rfl) (by kernel_rfl) (by kernel_rfl)
  by_cases hlen : 100 < (len : Int)
  · refine ⟨[some (Blk.cells [.int 9223372036854775807 k0, c1, c2, c3, c4, c5, c6, c7, c8, c9, c10, c11, c12, c13, c14, .int 18446744073709551615 md, sl, .int 9223372036854775807 els] (30 + 1))], ?_⟩
    simp only [kNrm_st, obind_some, obind_none, kThen_nrm, kThen_ret, kThen_exit, kOut_nrm, kOut_ret, kOut_exit, kIf_b, bq_true, bq_false, moveA_eq, pickA_eq, boxA_eq, newA_eq, cmp_eq, arith_eq, remA_eq, quoA_eq, notA_eq, negA_eq, cvI_eq, moveP_o, moveP_p, blkC_cells, load1_o, load1_p, loadG_o, loadG_p, store1_o, storeG_o, lenS_nils, lenS_sle, lenS_p, lenS_o, lenT_eq, idxS_p, idxS_o, idxT_eq, idxA_o, idxV1_eq, fld1_eq, fldG_eq, extA_eq, nilCk_o, nilCk_p, strAdd_eq, strCmp_eq, withX_some, withX_none, iaddE, isubE, imulE, iltE, igtE, ileE, igeE, ineE, ibeqE, hget_top, hget_zero, hget_succ, set_top, plains_nil, plains_cons, plain_int, plain_bool, plain_str, plain_nils, plain_slp, plain_sle, plain_nil, plain_pto, plain_ptp, plain_slo, nb_agg, nb_int, nb_bool, nb_str, nb_slp, nb_nils, nb_sle, nb_slo, cells_agg, cells_int, cells_bool, cells_str, List.length_cons, List.length_nil, List.length_append, List.take_succ_cons, List.take_zero, List.drop_succ_cons, List.drop_zero, List.cons_append, List.nil_append, List.append_nil, List.drop_nil, List.take_nil, List.getElem?_cons_zero, List.getElem?_cons_succ, List.set_cons_zero, List.set_cons_succ, Nat.reduceAdd, Nat.reduceMul, Nat.reduceSub, Nat.reduceLeDiff, Nat.reduceEqDiff, Nat.reduceLT, Nat.zero_add, Nat.add_zero, decide_true, decide_false, Bool.and_true, Bool.true_and, Bool.and_false, Bool.false_and, Bool.not_true, Bool.not_false, Nat.le_refl, reduceIte, kLaw_0_eq, kLaw_1_eq, kLaw_2_eq, kLaw_3_eq, kLaw_4_eq, kLaw_5_eq, kLaw_6_eq, kLaw_7_eq, kLaw_8_eq, kLaw_9_eq, kLaw_10_eq, kLaw_11_eq, kLaw_12_eq, kLaw_13_eq, kLaw_14_eq, kLaw_15_eq, kLaw_16_eq, kLaw_17_eq, kLaw_18_eq, kLaw_19_eq, kLaw_20_eq, kLaw_21_eq, kLaw_22_eq, kLaw_23_eq, kLaw_24_eq, kLaw_25_eq, kLaw_26_eq, kLaw_27_eq, kLaw_28_eq, kLaw_29_eq, kLaw_30_eq, kLaw_31_eq, kLaw_32_eq, kLaw_33_eq, kLaw_34_eq, kLaw_35_eq, kLaw_36_eq, kLaw_37_eq, kLaw_38_eq, kLaw_39_eq, kLaw_40_eq, kLaw_41_eq, kLaw_42_eq, kLaw_43_eq, kLaw_44_eq, kLaw_45_eq, kLaw_46_eq, kLaw_47_eq, kLaw_48_eq, kLaw_49_eq, kLaw_50_eq, kLaw_51_eq, kLaw_52_eq, kLaw_53_eq, kLaw_54_eq, kLaw_55_eq, kLaw_56_eq, kLaw_57_eq, kLaw_58_eq, kLaw_59_eq, kLaw_60_eq, kLaw_61_eq, kLaw_ret, kLaw_nrm, hfills, hL, decide_eq_true hlen]
  obtain ⟨n, rfl⟩ : ∃ k, n = k + 1 := ⟨n - 1, by omega⟩
  obtain ⟨hc, ec⟩ := case_run mx n k0 md els x c1 c2 c3 c4 c5 c6 c7 c8 c9 c10 c11 c12 c13 c14 sl cs len hs (by omega) hl' hx hm []
  have hcase := fun h => callA_pure (C := CL mx) (run := (rl (CL mx) (n + 1)).run) (h := h) (by kernel_rfl) (by rw [ltL_cons, lt_agg, hp]; rfl) (by kernel_rfl) ec rfl
  have key : ∀ v21, ∃ h', obind
        (obind
          (obind
            ((rl (CL mx) (n + 1)).lp (kLaw_40 (CL mx)) ⟨kLaw_T (.agg [.int 9223372036854775807 k0, c1, c2, c3, c4, c5, c6, c7, c8, c9, c10, c11, c12, c13, c14, .int 18446744073709551615 md, sl, .int 9223372036854775807 els]) (.int 18446744073709551615 x) (.pto 0 0) (.bool false) (.int 9223372036854775807 (caseR cs k0 els (caseY x md))) (.int 18446744073709551615 (caseY x md)) .bot (.bool false) (.bool false) v21 sl (.int 9223372036854775807 len) (.int 9223372036854775807 0) .bot .bot .bot,
              [some (Blk.cells [.int 9223372036854775807 k0, c1, c2, c3, c4, c5, c6, c7, c8, c9, c10, c11, c12, c13, c14, .int 18446744073709551615 md, sl, .int 9223372036854775807 els] (30 + 1))]⟩)
            (kOut 0))
          (kThen (kx (CL mx) (rl (CL mx) (n + 1)).run (rl (CL mx) (n + 1)).lp (kLaw_54 (CL mx)))))
        (endA (CL mx) [ResultVar.tmp 4]) = some (.bool true, h') := by
    intro v21
    obtain ⟨u4, u8, u29, u30, u36, h', e1, e2, e3, e4⟩ := law_loop mx sl cs len (caseY x md) (caseR cs k0 els (caseY x md)) (.agg [.int 9223372036854775807 k0, c1, c2, c3, c4, c5, c6, c7, c8, c9, c10, c11, c12, c13, c14, .int 18446744073709551615 md, sl, .int 9223372036854775807 els]) (.int 18446744073709551615 x) (.pto 0 0) (.bool false) (.bool false) (.bool false) v21 .bot hl' (by rcases hs.2 with h | h <;> simp [h]) len cs 0 (n + 1) [some (Blk.cells [.int 9223372036854775807 k0, c1, c2, c3, c4, c5, c6, c7, c8, c9, c10, c11, c12, c13, c14, .int 18446744073709551615 md, sl, .int 9223372036854775807 els] (30 + 1))] .bot .bot .bot (by omega) (by simp) (by omega) hs.1
    have g := e4 0 (by simp)
    rw [show ((0 : Nat) : Int) = 0 from rfl] at e1
    have g : hget h' 0 = some (Blk.cells [.int 9223372036854775807 k0, c1, c2, c3, c4, c5, c6, c7, c8, c9, c10, c11, c12, c13, c14, .int 18446744073709551615 md, sl, .int 9223372036854775807 els] (30 + 1)) := g
    refine ⟨h', ?_⟩
    cases hc : caseIn cs (caseY x md) with
    | some t =>
      obtain rfl := e2 t hc
      have hr : caseR cs k0 els (caseY x md) = t := by unfold caseR; rw [hc]
      rw [hc] at e1
      simp only [e1, kNrm_st, obind_some, obind_none, kThen_nrm, kThen_ret, kThen_exit, kOut_nrm, kOut_ret, kOut_exit, kIf_b, bq_true, bq_false, moveA_eq, pickA_eq, boxA_eq, newA_eq, cmp_eq, arith_eq, remA_eq, quoA_eq, notA_eq, negA_eq, cvI_eq, moveP_o, moveP_p, blkC_cells, load1_o, load1_p, loadG_o, loadG_p, store1_o, storeG_o, lenS_nils, lenS_sle, lenS_p, lenS_o, lenT_eq, idxS_p, idxS_o, idxT_eq, idxA_o, idxV1_eq, fld1_eq, fldG_eq, extA_eq, nilCk_o, nilCk_p, strAdd_eq, strCmp_eq, withX_some, withX_none, iaddE, isubE, imulE, iltE, igtE, ileE, igeE, ineE, ibeqE, hget_top, hget_zero, hget_succ, set_top, plains_nil, plains_cons, plain_int, plain_bool, plain_str, plain_nils, plain_slp, plain_sle, plain_nil, plain_pto, plain_ptp, plain_slo, nb_agg, nb_int, nb_bool, nb_str, nb_slp, nb_nils, nb_sle, nb_slo, cells_agg, cells_int, cells_bool, cells_str, List.length_cons, List.length_nil, List.length_append, List.take_succ_cons, List.take_zero, List.drop_succ_cons, List.drop_zero, List.cons_append, List.nil_append, List.append_nil, List.drop_nil, List.take_nil, List.getElem?_cons_zero, List.getElem?_cons_succ, List.set_cons_zero, List.set_cons_succ, Nat.reduceAdd, Nat.reduceMul, Nat.reduceSub, Nat.reduceLeDiff, Nat.reduceEqDiff, Nat.reduceLT, Nat.zero_add, Nat.add_zero, decide_true, decide_false, Bool.and_true, Bool.true_and, Bool.and_false, Bool.false_and, Bool.not_true, Bool.not_false, Nat.le_refl, reduceIte, kLaw_0_eq, kLaw_1_eq, kLaw_2_eq, kLaw_3_eq, kLaw_4_eq, kLaw_5_eq, kLaw_6_eq, kLaw_7_eq, kLaw_8_eq, kLaw_9_eq, kLaw_10_eq, kLaw_11_eq, kLaw_12_eq, kLaw_13_eq, kLaw_14_eq, kLaw_15_eq, kLaw_16_eq, kLaw_17_eq, kLaw_18_eq, kLaw_19_eq, kLaw_20_eq, kLaw_21_eq, kLaw_22_eq, kLaw_23_eq, kLaw_24_eq, kLaw_25_eq, kLaw_26_eq, kLaw_27_eq, kLaw_28_eq, kLaw_29_eq, kLaw_30_eq, kLaw_31_eq, kLaw_32_eq, kLaw_33_eq, kLaw_34_eq, kLaw_35_eq, kLaw_36_eq, kLaw_37_eq, kLaw_38_eq, kLaw_39_eq, kLaw_40_eq, kLaw_41_eq, kLaw_42_eq, kLaw_43_eq, kLaw_44_eq, kLaw_45_eq, kLaw_46_eq, kLaw_47_eq, kLaw_48_eq, kLaw_49_eq, kLaw_50_eq, kLaw_51_eq, kLaw_52_eq, kLaw_53_eq, kLaw_54_eq, kLaw_55_eq, kLaw_56_eq, kLaw_57_eq, kLaw_58_eq, kLaw_59_eq, kLaw_60_eq, kLaw_61_eq, kLaw_ret, kLaw_nrm, decide_eq_true hr]
    | none =>
      rw [hc] at e1
      by_cases hk : k0 = 9
      · have hk' : ¬ (k0 ≠ 9) := by omega
        have hr : caseR cs k0 els (caseY x md) = els := by unfold caseR; rw [hc]; exact if_neg hk'
        simp only [e1, kNrm_st, obind_some, obind_none, kThen_nrm, kThen_ret, kThen_exit, kOut_nrm, kOut_ret, kOut_exit, kIf_b, bq_true, bq_false, moveA_eq, pickA_eq, boxA_eq, newA_eq, cmp_eq, arith_eq, remA_eq, quoA_eq, notA_eq, negA_eq, cvI_eq, moveP_o, moveP_p, blkC_cells, load1_o, load1_p, loadG_o, loadG_p, store1_o, storeG_o, lenS_nils, lenS_sle, lenS_p, lenS_o, lenT_eq, idxS_p, idxS_o, idxT_eq, idxA_o, idxV1_eq, fld1_eq, fldG_eq, extA_eq, nilCk_o, nilCk_p, strAdd_eq, strCmp_eq, withX_some, withX_none, iaddE, isubE, imulE, iltE, igtE, ileE, igeE, ineE, ibeqE, hget_top, hget_zero, hget_succ, set_top, plains_nil, plains_cons, plain_int, plain_bool, plain_str, plain_nils, plain_slp, plain_sle, plain_nil, plain_pto, plain_ptp, plain_slo, nb_agg, nb_int, nb_bool, nb_str, nb_slp, nb_nils, nb_sle, nb_slo, cells_agg, cells_int, cells_bool, cells_str, List.length_cons, List.length_nil, List.length_append, List.take_succ_cons, List.take_zero, List.drop_succ_cons, List.drop_zero, List.cons_append, List.nil_append, List.append_nil, List.drop_nil, List.take_nil, List.getElem?_cons_zero, List.getElem?_cons_succ, List.set_cons_zero, List.set_cons_succ, Nat.reduceAdd, Nat.reduceMul, Nat.reduceSub, Nat.reduceLeDiff, Nat.reduceEqDiff, Nat.reduceLT, Nat.zero_add, Nat.add_zero, decide_true, decide_false, Bool.and_true, Bool.true_and, Bool.and_false, Bool.false_and, Bool.not_true, Bool.not_false, Nat.le_refl, reduceIte, kLaw_0_eq, kLaw_1_eq, kLaw_2_eq, kLaw_3_eq, kLaw_4_eq, kLaw_5_eq, kLaw_6_eq, kLaw_7_eq, kLaw_8_eq, kLaw_9_eq, kLaw_10_eq, kLaw_11_eq, kLaw_12_eq, kLaw_13_eq, kLaw_14_eq, kLaw_15_eq, kLaw_16_eq, kLaw_17_eq, kLaw_18_eq, kLaw_19_eq, kLaw_20_eq, kLaw_21_eq, kLaw_22_eq, kLaw_23_eq, kLaw_24_eq, kLaw_25_eq, kLaw_26_eq, kLaw_27_eq, kLaw_28_eq, kLaw_29_eq, kLaw_30_eq, kLaw_31_eq, kLaw_32_eq, kLaw_33_eq, kLaw_34_eq, kLaw_35_eq, kLaw_36_eq, kLaw_37_eq, kLaw_38_eq, kLaw_39_eq, kLaw_40_eq, kLaw_41_eq, kLaw_42_eq, kLaw_43_eq, kLaw_44_eq, kLaw_45_eq, kLaw_46_eq, kLaw_47_eq, kLaw_48_eq, kLaw_49_eq, kLaw_50_eq, kLaw_51_eq, kLaw_52_eq, kLaw_53_eq, kLaw_54_eq, kLaw_55_eq, kLaw_56_eq, kLaw_57_eq, kLaw_58_eq, kLaw_59_eq, kLaw_60_eq, kLaw_61_eq, kLaw_ret, kLaw_nrm, g, decide_eq_false hk', decide_eq_true hr]
      · have hr : caseR cs k0 els (caseY x md) = -1 := by unfold caseR; rw [hc]; exact if_pos hk
        simp only [e1, kNrm_st, obind_some, obind_none, kThen_nrm, kThen_ret, kThen_exit, kOut_nrm, kOut_ret, kOut_exit, kIf_b, bq_true, bq_false, moveA_eq, pickA_eq, boxA_eq, newA_eq, cmp_eq, arith_eq, remA_eq, quoA_eq, notA_eq, negA_eq, cvI_eq, moveP_o, moveP_p, blkC_cells, load1_o, load1_p, loadG_o, loadG_p, store1_o, storeG_o, lenS_nils, lenS_sle, lenS_p, lenS_o, lenT_eq, idxS_p, idxS_o, idxT_eq, idxA_o, idxV1_eq, fld1_eq, fldG_eq, extA_eq, nilCk_o, nilCk_p, strAdd_eq, strCmp_eq, withX_some, withX_none, iaddE, isubE, imulE, iltE, igtE, ileE, igeE, ineE, ibeqE, hget_top, hget_zero, hget_succ, set_top, plains_nil, plains_cons, plain_int, plain_bool, plain_str, plain_nils, plain_slp, plain_sle, plain_nil, plain_pto, plain_ptp, plain_slo, nb_agg, nb_int, nb_bool, nb_str, nb_slp, nb_nils, nb_sle, nb_slo, cells_agg, cells_int, cells_bool, cells_str, List.length_cons, List.length_nil, List.length_append, List.take_succ_cons, List.take_zero, List.drop_succ_cons, List.drop_zero, List.cons_append, List.nil_append, List.append_nil, List.drop_nil, List.take_nil, List.getElem?_cons_zero, List.getElem?_cons_succ, List.set_cons_zero, List.set_cons_succ, Nat.reduceAdd, Nat.reduceMul, Nat.reduceSub, Nat.reduceLeDiff, Nat.reduceEqDiff, Nat.reduceLT, Nat.zero_add, Nat.add_zero, decide_true, decide_false, Bool.and_true, Bool.true_and, Bool.and_false, Bool.false_and, Bool.not_true, Bool.not_false, Nat.le_refl, reduceIte, kLaw_0_eq, kLaw_1_eq, kLaw_2_eq, kLaw_3_eq, kLaw_4_eq, kLaw_5_eq, kLaw_6_eq, kLaw_7_eq, kLaw_8_eq, kLaw_9_eq, kLaw_10_eq, kLaw_11_eq, kLaw_12_eq, kLaw_13_eq, kLaw_14_eq, kLaw_15_eq, kLaw_16_eq, kLaw_17_eq, kLaw_18_eq, kLaw_19_eq, kLaw_20_eq, kLaw_21_eq, kLaw_22_eq, kLaw_23_eq, kLaw_24_eq, kLaw_25_eq, kLaw_26_eq, kLaw_27_eq, kLaw_28_eq, kLaw_29_eq, kLaw_30_eq, kLaw_31_eq, kLaw_32_eq, kLaw_33_eq, kLaw_34_eq, kLaw_35_eq, kLaw_36_eq, kLaw_37_eq, kLaw_38_eq, kLaw_39_eq, kLaw_40_eq, kLaw_41_eq, kLaw_42_eq, kLaw_43_eq, kLaw_44_eq, kLaw_45_eq, kLaw_46_eq, kLaw_47_eq, kLaw_48_eq, kLaw_49_eq, kLaw_50_eq, kLaw_51_eq, kLaw_52_eq, kLaw_53_eq, kLaw_54_eq, kLaw_55_eq, kLaw_56_eq, kLaw_57_eq, kLaw_58_eq, kLaw_59_eq, kLaw_60_eq, kLaw_61_eq, kLaw_ret, kLaw_nrm, g, decide_eq_true hk, decide_eq_true hr]
  by_cases h0 : 0 < md
  · obtain ⟨h', e⟩ := key (.bool true)
    refine ⟨h', ?_⟩
    have hy : x % md = caseY x md := by unfold caseY; rw [if_pos (by omega)]
    have h0' : md ≠ 0 := by omega
    simp only [kNrm_st, obind_some, obind_none, kThen_nrm, kThen_ret, kThen_exit, kOut_nrm, kOut_ret, kOut_exit, kIf_b, bq_true, bq_false, moveA_eq, pickA_eq, boxA_eq, newA_eq, cmp_eq, arith_eq, remA_eq, quoA_eq, notA_eq, negA_eq, cvI_eq, moveP_o, moveP_p, blkC_cells, load1_o, load1_p, loadG_o, loadG_p, store1_o, storeG_o, lenS_nils, lenS_sle, lenS_p, lenS_o, lenT_eq, idxS_p, idxS_o, idxT_eq, idxA_o, idxV1_eq, fld1_eq, fldG_eq, extA_eq, nilCk_o, nilCk_p, strAdd_eq, strCmp_eq, withX_some, withX_none, iaddE, isubE, imulE, iltE, igtE, ileE, igeE, ineE, ibeqE, hget_top, hget_zero, hget_succ, set_top, plains_nil, plains_cons, plain_int, plain_bool, plain_str, plain_nils, plain_slp, plain_sle, plain_nil, plain_pto, plain_ptp, plain_slo, nb_agg, nb_int, nb_bool, nb_str, nb_slp, nb_nils, nb_sle, nb_slo, cells_agg, cells_int, cells_bool, cells_str, List.length_cons, List.length_nil, List.length_append, List.take_succ_cons, List.take_zero, List.drop_succ_cons, List.drop_zero, List.cons_append, List.nil_append, List.append_nil, List.drop_nil, List.take_nil, List.getElem?_cons_zero, List.getElem?_cons_succ, List.set_cons_zero, List.set_cons_succ, Nat.reduceAdd, Nat.reduceMul, Nat.reduceSub, Nat.reduceLeDiff, Nat.reduceEqDiff, Nat.reduceLT, Nat.zero_add, Nat.add_zero, decide_true, decide_false, Bool.and_true, Bool.true_and, Bool.and_false, Bool.false_and, Bool.not_true, Bool.not_false, Nat.le_refl, reduceIte, kLaw_0_eq, kLaw_1_eq, kLaw_2_eq, kLaw_3_eq, kLaw_4_eq, kLaw_5_eq, kLaw_6_eq, kLaw_7_eq, kLaw_8_eq, kLaw_9_eq, kLaw_10_eq, kLaw_11_eq, kLaw_12_eq, kLaw_13_eq, kLaw_14_eq, kLaw_15_eq, kLaw_16_eq, kLaw_17_eq, kLaw_18_eq, kLaw_19_eq, kLaw_20_eq, kLaw_21_eq, kLaw_22_eq, kLaw_23_eq, kLaw_24_eq, kLaw_25_eq, kLaw_26_eq, kLaw_27_eq, kLaw_28_eq, kLaw_29_eq, kLaw_30_eq, kLaw_31_eq, kLaw_32_eq, kLaw_33_eq, kLaw_34_eq, kLaw_35_eq, kLaw_36_eq, kLaw_37_eq, kLaw_38_eq, kLaw_39_eq, kLaw_40_eq, kLaw_41_eq, kLaw_42_eq, kLaw_43_eq, kLaw_44_eq, kLaw_45_eq, kLaw_46_eq, kLaw_47_eq, kLaw_48_eq, kLaw_49_eq, kLaw_50_eq, kLaw_51_eq, kLaw_52_eq, kLaw_53_eq, kLaw_54_eq, kLaw_55_eq, kLaw_56_eq, kLaw_57_eq, kLaw_58_eq, kLaw_59_eq, kLaw_60_eq, kLaw_61_eq, kLaw_ret, kLaw_nrm, hfills, hL, decide_eq_false hlen, hcase, decide_eq_true h0, decide_eq_true h0', irem_pos hx hm, hy]
    exact e
  · obtain ⟨h', e⟩ := key (.bool false)
    refine ⟨h', ?_⟩
    have hy : x = caseY x md := by unfold caseY; rw [if_neg (by omega)]
    simp only [kNrm_st, obind_some, obind_none, kThen_nrm, kThen_ret, kThen_exit, kOut_nrm, kOut_ret, kOut_exit, kIf_b, bq_true, bq_false, moveA_eq, pickA_eq, boxA_eq, newA_eq, cmp_eq, arith_eq, remA_eq, quoA_eq, notA_eq, negA_eq, cvI_eq, moveP_o, moveP_p, blkC_cells, load1_o, load1_p, loadG_o, loadG_p, store1_o, storeG_o, lenS_nils, lenS_sle, lenS_p, lenS_o, lenT_eq, idxS_p, idxS_o, idxT_eq, idxA_o, idxV1_eq, fld1_eq, fldG_eq, extA_eq, nilCk_o, nilCk_p, strAdd_eq, strCmp_eq, withX_some, withX_none, iaddE, isubE, imulE, iltE, igtE, ileE, igeE, ineE, ibeqE, hget_top, hget_zero, hget_succ, set_top, plains_nil, plains_cons, plain_int, plain_bool, plain_str, plain_nils, plain_slp, plain_sle, plain_nil, plain_pto, plain_ptp, plain_slo, nb_agg, nb_int, nb_bool, nb_str, nb_slp, nb_nils, nb_sle, nb_slo, cells_agg, cells_int, cells_bool, cells_str, List.length_cons, List.length_nil, List.length_append, List.take_succ_cons, List.take_zero, List.drop_succ_cons, List.drop_zero, List.cons_append, List.nil_append, List.append_nil, List.drop_nil, List.take_nil, List.getElem?_cons_zero, List.getElem?_cons_succ, List.set_cons_zero, List.set_cons_succ, Nat.reduceAdd, Nat.reduceMul, Nat.reduceSub, Nat.reduceLeDiff, Nat.reduceEqDiff, Nat.reduceLT, Nat.zero_add, Nat.add_zero, decide_true, decide_false, Bool.and_true, Bool.true_and, Bool.and_false, Bool.false_and, Bool.not_true, Bool.not_false, Nat.le_refl, reduceIte, kLaw_0_eq, kLaw_1_eq, kLaw_2_eq, kLaw_3_eq, kLaw_4_eq, kLaw_5_eq, kLaw_6_eq, kLaw_7_eq, kLaw_8_eq, kLaw_9_eq, kLaw_10_eq, kLaw_11_eq, kLaw_12_eq, kLaw_13_eq, kLaw_14_eq, kLaw_15_eq, kLaw_16_eq, kLaw_17_eq, kLaw_18_eq, kLaw_19_eq, kLaw_20_eq, kLaw_21_eq, kLaw_22_eq, kLaw_23_eq, kLaw_24_eq, kLaw_25_eq, kLaw_26_eq, kLaw_27_eq, kLaw_28_eq, kLaw_29_eq, kLaw_30_eq, kLaw_31_eq, kLaw_32_eq, kLaw_33_eq, kLaw_34_eq, kLaw_35_eq, kLaw_36_eq, kLaw_37_eq, kLaw_38_eq, kLaw_39_eq, kLaw_40_eq, kLaw_41_eq, kLaw_42_eq, kLaw_43_eq, kLaw_44_eq, kLaw_45_eq, kLaw_46_eq, kLaw_47_eq, kLaw_48_eq, kLaw_49_eq, kLaw_50_eq, kLaw_51_eq, kLaw_52_eq, kLaw_53_eq, kLaw_54_eq, kLaw_55_eq, kLaw_56_eq, kLaw_57_eq, kLaw_58_eq, kLaw_59_eq, kLaw_60_eq, kLaw_61_eq, kLaw_ret, kLaw_nrm, hfills, hL, decide_eq_false hlen, hcase, decide_eq_false h0]
    rw [← hy] at e ⊢
    exact e
theorem pairs_open {n : Nat} : ∀ {len : Nat} {cs : List AV}, TyL (TyC Tryz.prog n) (List.replicate len 34) cs → Pairs cs len
  | 0, cs, h => by
    rw [show cs = [] from h]
    exact ⟨rfl, fun j hj => by omega⟩
  | len + 1, cs, h => by
    rw [List.replicate_succ] at h
    obtain ⟨a, r, rfl, h1, h2⟩ := h
    obtain ⟨m, h1⟩ := TyC.struct_ Tryz.underlying34 h1
    obtain ⟨x, r1, rfl, hx, y, r2, rfl, hy, hz⟩ := h1
    obtain ⟨u, rfl, _⟩ := TyC.int_ Tryz.underlying22 hx
    obtain ⟨t, rfl, _⟩ := TyC.int_ Tryz.underlying3 hy
    rw [show r2 = [] from hz]
    obtain ⟨g1, g2⟩ := pairs_open h2
    refine ⟨by simp [g1]; omega, fun j hj => ?_⟩
    cases j with
    | zero => exact ⟨u, t, rfl, rfl⟩
    | succ j =>
      obtain ⟨u, t, k1, k2⟩ := g2 j (by omega)
      refine ⟨u, t, ?_, ?_⟩
      · rw [show (j + 1) * 2 = j * 2 + 1 + 1 by omega]; exact k1
      · rw [show (j + 1) * 2 = j * 2 + 1 + 1 by omega]; exact k2
theorem slc_open {n : Nat} {al : List AV} (h : TyC Tryz.prog n 28 al) : ∃ sl cs len, al = [sl] ∧ SlC sl cs len ∧ len ≤ maxLen := by
  rcases TyC.slice_ Tryz.underlying28 h with rfl | rfl | ⟨m, cs, len, rfl, h1, h2, h3⟩
  · exact ⟨_, [], 0, rfl, ⟨⟨rfl, fun j hj => by omega⟩, .inr ⟨rfl, .inl rfl⟩⟩, Nat.zero_le _⟩
  · exact ⟨_, [], 0, rfl, ⟨⟨rfl, fun j hj => by omega⟩, .inr ⟨rfl, .inr rfl⟩⟩, Nat.zero_le _⟩
  · exact ⟨_, cs, len, rfl, ⟨pairs_open h3, .inl rfl⟩, h2⟩
set_option maxRecDepth 100000 in
theorem ValidCases_calls {W : World} {args : Array Value} {a0 a1 : AV} {n0 n1 : Nat} {mx : Int} (I : Inv (C0 mx) (· < W.heap.size) W ρ0 []) (hv : VL (· < W.heap.size) W [a0, a1] ρ0 args.toList)
    (t0 : TyV Tryz.prog n0 30 a0) (t1 : TyV Tryz.prog n1 22 a1) : Calls Tryz.prog 3 args W fun e w' => e = .returned (.bool true) ∧ RowKit.Below W.heap.size W w' := by
  obtain ⟨x, rfl, wx⟩ := TyV.int_ Tryz.underlying22 t1
  obtain ⟨x0, _⟩ := Go.bounds_u64 wx
  obtain ⟨al, rfl, h⟩ := TyV.agg Tryz.underlying30 t0
  have hp := h.lt
  obtain ⟨m, h⟩ := TyC.struct_ Tryz.underlying30 h
  have h : TyL (TyC Tryz.prog m) [3, 3, 4, 4, 4, 22, 22, 9, 24, 25, 26, 27, 9, 22, 28, 3] al := h
  obtain ⟨b0, r0, rfl, h0, b1, r1, rfl, h1, b2, r2, rfl, h2, b3, r3, rfl, h3, b4, r4, rfl, h4, b5, r5, rfl, h5, b6, r6, rfl, h6, b7, r7, rfl, h7, b8, r8, rfl, h8, b9, r9, rfl, h9, b10, r10, rfl, h10, b11, r11, rfl, h11, b12, r12, rfl, h12, b13, r13, rfl, h13, b14, r14, rfl, h14, b15, r15, rfl, h15, hz⟩ := h
  rw [show r15 = [] from hz] at hp hv
  obtain ⟨k0, rfl, _⟩ := TyC.int_ Tryz.underlying3 h0
  obtain ⟨c1, rfl⟩ := TyC.one (by kernel_rfl) h1
  obtain ⟨c2, rfl⟩ := TyC.one (by kernel_rfl) h2
  obtain ⟨c3, rfl⟩ := TyC.one (by kernel_rfl) h3
  obtain ⟨c4, rfl⟩ := TyC.one (by kernel_rfl) h4
  obtain ⟨c5, rfl⟩ := TyC.one (by kernel_rfl) h5
  obtain ⟨c6, rfl⟩ := TyC.one (by kernel_rfl) h6
  obtain ⟨c7, rfl⟩ := TyC.one (by kernel_rfl) h7
  have l8 := h8.len
  rw [show Tryz.prog.cellsOf _ = 3 by kernel_rfl] at l8
  match b8, l8 with
  | [c8, c9, c10], _ =>
    obtain ⟨c11, rfl⟩ := TyC.one (by kernel_rfl) h9
    obtain ⟨c12, rfl⟩ := TyC.one (by kernel_rfl) h10
    obtain ⟨c13, rfl⟩ := TyC.one (by kernel_rfl) h11
    obtain ⟨c14, rfl⟩ := TyC.one (by kernel_rfl) h12
    obtain ⟨md, rfl, wm⟩ := TyC.int_ Tryz.underlying22 h13
    obtain ⟨sl, cs, len, rfl, hs, hl⟩ := slc_open h14
    obtain ⟨els, rfl, _⟩ := TyC.int_ Tryz.underlying3 h15
    obtain ⟨h', e⟩ := law_run mx 200 k0 md els x c1 c2 c3 c4 c5 c6 c7 c8 c9 c10 c11 c12 c13 c14 sl cs len hs (Nat.le_refl _) (by unfold maxLen at hl; omega) x0 (Go.bounds_u64 wm).1 hp
    exact calls_of_run (runN_ok cl_ok 201 _ _ _ _ _ e) (I.of_gl (told_gl _ _)) hv
end Go.Proofs.YtcdmgfphhbnkaaaGreatDoor
