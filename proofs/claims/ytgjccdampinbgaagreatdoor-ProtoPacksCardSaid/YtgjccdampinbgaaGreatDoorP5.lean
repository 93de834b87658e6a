/- The document's number of seven bits a byte: its run, and that it is the program's. The function's equations are printed by a program. -/
import Derived.Test.YtgjccdampinbgaaGreatDoorP4
namespace Go.Proofs.YtgjccdampinbgaaGreatDoor
set_option linter.unusedSimpArgs false
set_option linter.unusedVariables false
set_option linter.unnecessarySimpa false
noncomputable section
/- guipure/guipureref02.Read -/
def kRef_T (v0 v1 v4 v5 v6 v7 v8 v9 v24 v43 v47 v60 v63 : AV) : Tm := (.nd 8 (.nd 5 (.nd 1 (.lf 0 v0) (.nd 4 (.lf 1 v1) (.lf 4 v4))) (.nd 6 (.lf 5 v5) (.nd 7 (.lf 6 v6) (.lf 7 v7)))) (.nd 43 (.nd 9 (.lf 8 v8) (.nd 24 (.lf 9 v9) (.lf 24 v24))) (.nd 60 (.nd 47 (.lf 43 v43) (.lf 47 v47)) (.nd 63 (.lf 60 v60) (.lf 63 v63)))))
section
variable (C : Cx) (run : Run) (lp : Lp) (s : St) (h : AH) (v0 v1 v4 v5 v6 v7 v8 v9 v24 v43 v47 v60 v63 : AV)
def kRef_0 (C : Cx) : K := .reg [.mk (o1 moveA (.cst (.int 18446744073709551615 0))), .mk (o1 moveA (.cst (.int 9223372036854775807 0))), .mk (o1 moveA (.cst (.int 9223372036854775807 0)))] [(6, 0), (5, 1), (4, 2)]
theorem kRef_0_eq : kx C run lp (kRef_0 C) ⟨kRef_T v0 v1 v4 v5 v6 v7 v8 v9 v24 v43 v47 v60 v63, h⟩ = kNrm (moveA (.int 18446744073709551615 0) h (fun a0 h => moveA (.int 9223372036854775807 0) h (fun a1 h => moveA (.int 9223372036854775807 0) h (fun a2 h => some (.st (kRef_T v0 v1 a0 a1 a2 v7 v8 v9 v24 v43 v47 v60 v63) h))))) := (rfl)
def kRef_1 (C : Cx) : K := .reg [.mk (o1 moveA (.cst (.int 9223372036854775807 0)))] [(7, 0)]
theorem kRef_1_eq : kx C run lp (kRef_1 C) ⟨kRef_T v0 v1 v4 v5 v6 v7 v8 v9 v24 v43 v47 v60 v63, h⟩ = kNrm (moveA (.int 9223372036854775807 0) h (fun a0 h => some (.st (kRef_T v0 v1 v4 v5 v6 a0 v8 v9 v24 v43 v47 v60 v63) h))) := (rfl)
def kRef_2 (C : Cx) : K := .reg [.mk (o1 moveA (.tr 7)), .mk (o1 moveA (.tr 0)), .mk (o1 lenS (.st 0)), .mk (o2 (cmp ilt) (.st 2) (.st 0)), .mk (o1 moveA (.st 0)), .mk (guardA (.st 0) true ((o1 moveA (.tr 7)))), .mk (guardA (.st 1) true ((o2 (cmp ilt) (.st 0) (.cst (.int 9223372036854775807 10))))), .mk (o3 pickA (.st 2) (.st 0) (.cst (.bool false))), .mk (o1 moveA (.st 0)), .mk (guardA (.st 0) true ((o1 moveA (.tr 0)))), .mk (guardA (.st 1) true ((o1 moveA (.tr 7)))), .mk (guardA (.st 2) true ((o2 (idxS 1) (.st 1) (.st 0)))), .mk (guardA (.st 3) true ((o1 load1 (.st 0)))), .mk (guardA (.st 4) true ((o2 (cmp ige) (.st 0) (.cst (.int 255 128))))), .mk (o3 pickA (.st 5) (.st 0) (.cst (.bool false)))] [(24, 0)]
theorem kRef_2_eq : kx C run lp (kRef_2 C) ⟨kRef_T v0 v1 v4 v5 v6 v7 v8 v9 v24 v43 v47 v60 v63, h⟩ = kNrm (moveA v7 h (fun a0 h => moveA v0 h (fun a1 h => lenS a1 h (fun a2 h => cmp ilt a0 a2 h (fun a3 h => moveA a3 h (fun a4 h => guardC a4 true (fun κ => moveA v7 h (κ)) h (fun a5 h => guardC a4 true (fun κ => cmp ilt a5 (.int 9223372036854775807 10) h (κ)) h (fun a6 h => pickA a4 a6 (.bool false) h (fun a7 h => moveA a7 h (fun a8 h => guardC a8 true (fun κ => moveA v0 h (κ)) h (fun a9 h => guardC a8 true (fun κ => moveA v7 h (κ)) h (fun a10 h => guardC a8 true (fun κ => idxS 1 a9 a10 h (κ)) h (fun a11 h => guardC a8 true (fun κ => load1 a11 h (κ)) h (fun a12 h => guardC a8 true (fun κ => cmp ige a12 (.int 255 128) h (κ)) h (fun a13 h => pickA a8 a13 (.bool false) h (fun a14 h => some (.st (kRef_T v0 v1 v4 v5 v6 v7 v8 v9 a14 v43 v47 v60 v63) h))))))))))))))))) := by kernel_rfl
def kRef_3 (_ : Cx) : K := .skip
theorem kRef_3_eq : kx C run lp (kRef_3 C) s = some (.nrm, s) := (rfl)
def kRef_4 (_ : Cx) : K := .ex (.exit 0)
theorem kRef_4_eq : kx C run lp (kRef_4 C) s = some (.exit 0, s) := (rfl)
def kRef_5 (C : Cx) : K := .cond (.tr 24) (kRef_3 C) (kRef_4 C)
theorem kRef_5_eq : kx C run lp (kRef_5 C) ⟨kRef_T v0 v1 v4 v5 v6 v7 v8 v9 v24 v43 v47 v60 v63, h⟩ = kIf v24 (kx C run lp (kRef_3 C)) (kx C run lp (kRef_4 C)) ⟨kRef_T v0 v1 v4 v5 v6 v7 v8 v9 v24 v43 v47 v60 v63, h⟩ := (rfl)
def kRef_6 (C : Cx) : K := .seq (kRef_2 C) (kRef_5 C)
theorem kRef_6_eq : kx C run lp (kRef_6 C) s = obind (kx C run lp (kRef_2 C) s) (kThen (kx C run lp (kRef_5 C))) := (rfl)
def kRef_7 (C : Cx) : K := .reg [.mk (o1 moveA (.tr 7)), .mk (o2 (arith iadd) (.st 0) (.cst (.int 9223372036854775807 1))), .mk (o1 moveA (.st 0))] [(7, 0)]
theorem kRef_7_eq : kx C run lp (kRef_7 C) ⟨kRef_T v0 v1 v4 v5 v6 v7 v8 v9 v24 v43 v47 v60 v63, h⟩ = kNrm (moveA v7 h (fun a0 h => arith iadd a0 (.int 9223372036854775807 1) h (fun a1 h => moveA a1 h (fun a2 h => some (.st (kRef_T v0 v1 v4 v5 v6 a2 v8 v9 v24 v43 v47 v60 v63) h))))) := (rfl)
def kRef_8 (C : Cx) : K := .block 1 (kRef_7 C)
theorem kRef_8_eq : kx C run lp (kRef_8 C) s = obind (kx C run lp (kRef_7 C) s) (kOut 1) := (rfl)
def kRef_9 (C : Cx) : K := .seq (kRef_6 C) (kRef_8 C)
theorem kRef_9_eq : kx C run lp (kRef_9 C) s = obind (kx C run lp (kRef_6 C) s) (kThen (kx C run lp (kRef_8 C))) := (rfl)
def kRef_10 (C : Cx) : K := .loop (kRef_9 C)
theorem kRef_10_eq : kx C run lp (kRef_10 C) s = lp (kRef_9 C) s := (rfl)
def kRef_11 (C : Cx) : K := .block 0 (kRef_10 C)
theorem kRef_11_eq : kx C run lp (kRef_11 C) s = obind (kx C run lp (kRef_10 C) s) (kOut 0) := (rfl)
def kRef_12 (C : Cx) : K := .reg [.mk (o1 moveA (.tr 7)), .mk (o2 (cmp ige) (.st 0) (.cst (.int 9223372036854775807 9))), .mk (o1 moveA (.st 0)), .mk (guardA (.st 0) true ((o1 moveA (.tr 0)))), .mk (guardA (.st 1) true ((o1 lenS (.st 0)))), .mk (guardA (.st 2) true ((o2 (cmp igt) (.st 0) (.cst (.int 9223372036854775807 9))))), .mk (o3 pickA (.st 3) (.st 0) (.cst (.bool false))), .mk (o1 moveA (.st 0)), .mk (guardA (.st 0) true ((o1 moveA (.tr 0)))), .mk (guardA (.st 1) true ((o2 (idxS 1) (.st 0) (.cst (.int 9223372036854775807 9))))), .mk (guardA (.st 2) true ((o1 load1 (.st 0)))), .mk (guardA (.st 3) true ((o2 (cmp igt) (.st 0) (.cst (.int 255 1))))), .mk (o3 pickA (.st 4) (.st 0) (.cst (.bool false))), .mk (o1 moveA (.st 0)), .mk (guardA (.st 0) false ((o1 moveA (.tr 7)))), .mk (guardA (.st 1) false ((o2 (cmp ibeq) (.st 0) (.cst (.int 9223372036854775807 10))))), .mk (o3 pickA (.st 2) (.cst (.bool true)) (.st 0))] [(43, 0)]
theorem kRef_12_eq : kx C run lp (kRef_12 C) ⟨kRef_T v0 v1 v4 v5 v6 v7 v8 v9 v24 v43 v47 v60 v63, h⟩ = kNrm (moveA v7 h (fun a0 h => cmp ige a0 (.int 9223372036854775807 9) h (fun a1 h => moveA a1 h (fun a2 h => guardC a2 true (fun κ => moveA v0 h (κ)) h (fun a3 h => guardC a2 true (fun κ => lenS a3 h (κ)) h (fun a4 h => guardC a2 true (fun κ => cmp igt a4 (.int 9223372036854775807 9) h (κ)) h (fun a5 h => pickA a2 a5 (.bool false) h (fun a6 h => moveA a6 h (fun a7 h => guardC a7 true (fun κ => moveA v0 h (κ)) h (fun a8 h => guardC a7 true (fun κ => idxS 1 a8 (.int 9223372036854775807 9) h (κ)) h (fun a9 h => guardC a7 true (fun κ => load1 a9 h (κ)) h (fun a10 h => guardC a7 true (fun κ => cmp igt a10 (.int 255 1) h (κ)) h (fun a11 h => pickA a7 a11 (.bool false) h (fun a12 h => moveA a12 h (fun a13 h => guardC a13 false (fun κ => moveA v7 h (κ)) h (fun a14 h => guardC a13 false (fun κ => cmp ibeq a14 (.int 9223372036854775807 10) h (κ)) h (fun a15 h => pickA a13 (.bool true) a15 h (fun a16 h => some (.st (kRef_T v0 v1 v4 v5 v6 v7 v8 v9 v24 a16 v47 v60 v63) h))))))))))))))))))) := by kernel_rfl
def kRef_13 (C : Cx) : K := .reg [.mk (o1 moveA (.cst (.int 18446744073709551615 0))), .mk (o1 moveA (.cst (.int 9223372036854775807 0))), .mk (o1 moveA (.cst (.int 9223372036854775807 20)))] [(6, 0), (5, 1), (4, 2)]
theorem kRef_13_eq : kx C run lp (kRef_13 C) ⟨kRef_T v0 v1 v4 v5 v6 v7 v8 v9 v24 v43 v47 v60 v63, h⟩ = kNrm (moveA (.int 18446744073709551615 0) h (fun a0 h => moveA (.int 9223372036854775807 0) h (fun a1 h => moveA (.int 9223372036854775807 20) h (fun a2 h => some (.st (kRef_T v0 v1 a0 a1 a2 v7 v8 v9 v24 v43 v47 v60 v63) h))))) := (rfl)
def kRef_14 (_ : Cx) : K := .ex .ret
theorem kRef_14_eq : kx C run lp (kRef_14 C) s = some (.ret, s) := (rfl)
def kRef_15 (C : Cx) : K := .seq (kRef_13 C) (kRef_14 C)
theorem kRef_15_eq : kx C run lp (kRef_15 C) s = obind (kx C run lp (kRef_13 C) s) (kThen (kx C run lp (kRef_14 C))) := (rfl)
def kRef_16 (_ : Cx) : K := .skip
theorem kRef_16_eq : kx C run lp (kRef_16 C) s = some (.nrm, s) := (rfl)
def kRef_17 (C : Cx) : K := .cond (.tr 43) (kRef_15 C) (kRef_16 C)
theorem kRef_17_eq : kx C run lp (kRef_17 C) ⟨kRef_T v0 v1 v4 v5 v6 v7 v8 v9 v24 v43 v47 v60 v63, h⟩ = kIf v43 (kx C run lp (kRef_15 C)) (kx C run lp (kRef_16 C)) ⟨kRef_T v0 v1 v4 v5 v6 v7 v8 v9 v24 v43 v47 v60 v63, h⟩ := (rfl)
def kRef_18 (C : Cx) : K := .seq (kRef_12 C) (kRef_17 C)
theorem kRef_18_eq : kx C run lp (kRef_18 C) s = obind (kx C run lp (kRef_12 C) s) (kThen (kx C run lp (kRef_17 C))) := (rfl)
def kRef_19 (C : Cx) : K := .reg [.mk (o1 moveA (.tr 7)), .mk (o1 moveA (.tr 0)), .mk (o1 lenS (.st 0)), .mk (o2 (cmp ibeq) (.st 2) (.st 0))] [(47, 0)]
theorem kRef_19_eq : kx C run lp (kRef_19 C) ⟨kRef_T v0 v1 v4 v5 v6 v7 v8 v9 v24 v43 v47 v60 v63, h⟩ = kNrm (moveA v7 h (fun a0 h => moveA v0 h (fun a1 h => lenS a1 h (fun a2 h => cmp ibeq a0 a2 h (fun a3 h => some (.st (kRef_T v0 v1 v4 v5 v6 v7 v8 v9 v24 v43 a3 v60 v63) h)))))) := (rfl)
def kRef_20 (C : Cx) : K := .reg [.mk (o1 moveA (.cst (.int 18446744073709551615 0))), .mk (o1 moveA (.cst (.int 9223372036854775807 0))), .mk (o1 moveA (.cst (.int 9223372036854775807 10)))] [(6, 0), (5, 1), (4, 2)]
theorem kRef_20_eq : kx C run lp (kRef_20 C) ⟨kRef_T v0 v1 v4 v5 v6 v7 v8 v9 v24 v43 v47 v60 v63, h⟩ = kNrm (moveA (.int 18446744073709551615 0) h (fun a0 h => moveA (.int 9223372036854775807 0) h (fun a1 h => moveA (.int 9223372036854775807 10) h (fun a2 h => some (.st (kRef_T v0 v1 a0 a1 a2 v7 v8 v9 v24 v43 v47 v60 v63) h))))) := (rfl)
def kRef_21 (_ : Cx) : K := .ex .ret
theorem kRef_21_eq : kx C run lp (kRef_21 C) s = some (.ret, s) := (rfl)
def kRef_22 (C : Cx) : K := .seq (kRef_20 C) (kRef_21 C)
theorem kRef_22_eq : kx C run lp (kRef_22 C) s = obind (kx C run lp (kRef_20 C) s) (kThen (kx C run lp (kRef_21 C))) := (rfl)
def kRef_23 (_ : Cx) : K := .skip
theorem kRef_23_eq : kx C run lp (kRef_23 C) s = some (.nrm, s) := (rfl)
def kRef_24 (C : Cx) : K := .cond (.tr 47) (kRef_22 C) (kRef_23 C)
theorem kRef_24_eq : kx C run lp (kRef_24 C) ⟨kRef_T v0 v1 v4 v5 v6 v7 v8 v9 v24 v43 v47 v60 v63, h⟩ = kIf v47 (kx C run lp (kRef_22 C)) (kx C run lp (kRef_23 C)) ⟨kRef_T v0 v1 v4 v5 v6 v7 v8 v9 v24 v43 v47 v60 v63, h⟩ := (rfl)
def kRef_25 (C : Cx) : K := .seq (kRef_19 C) (kRef_24 C)
theorem kRef_25_eq : kx C run lp (kRef_25 C) s = obind (kx C run lp (kRef_19 C) s) (kThen (kx C run lp (kRef_24 C))) := (rfl)
def kRef_26 (C : Cx) : K := .reg [.mk (o1 moveA (.tr 7)), .mk (o2 (cmp igt) (.st 0) (.cst (.int 9223372036854775807 0))), .mk (o1 moveA (.st 0)), .mk (guardA (.st 0) true ((o1 moveA (.tr 0)))), .mk (guardA (.st 1) true ((o1 moveA (.tr 7)))), .mk (guardA (.st 2) true ((o2 (idxS 1) (.st 1) (.st 0)))), .mk (guardA (.st 3) true ((o1 load1 (.st 0)))), .mk (guardA (.st 4) true ((o2 (cmp ibeq) (.st 0) (.cst (.int 255 0))))), .mk (o3 pickA (.st 5) (.st 0) (.cst (.bool false))), .mk (o1 moveA (.st 0)), .mk (guardA (.st 0) true ((o1 moveA (.tr 1)))), .mk (guardA (.st 1) true ((o1 notA (.st 0)))), .mk (o3 pickA (.st 2) (.st 0) (.cst (.bool false)))] [(60, 0)]
theorem kRef_26_eq : kx C run lp (kRef_26 C) ⟨kRef_T v0 v1 v4 v5 v6 v7 v8 v9 v24 v43 v47 v60 v63, h⟩ = kNrm (moveA v7 h (fun a0 h => cmp igt a0 (.int 9223372036854775807 0) h (fun a1 h => moveA a1 h (fun a2 h => guardC a2 true (fun κ => moveA v0 h (κ)) h (fun a3 h => guardC a2 true (fun κ => moveA v7 h (κ)) h (fun a4 h => guardC a2 true (fun κ => idxS 1 a3 a4 h (κ)) h (fun a5 h => guardC a2 true (fun κ => load1 a5 h (κ)) h (fun a6 h => guardC a2 true (fun κ => cmp ibeq a6 (.int 255 0) h (κ)) h (fun a7 h => pickA a2 a7 (.bool false) h (fun a8 h => moveA a8 h (fun a9 h => guardC a9 true (fun κ => moveA v1 h (κ)) h (fun a10 h => guardC a9 true (fun κ => notA a10 h (κ)) h (fun a11 h => pickA a9 a11 (.bool false) h (fun a12 h => some (.st (kRef_T v0 v1 v4 v5 v6 v7 v8 v9 v24 v43 v47 a12 v63) h))))))))))))))) := by kernel_rfl
def kRef_27 (C : Cx) : K := .reg [.mk (o1 moveA (.cst (.int 18446744073709551615 0))), .mk (o1 moveA (.cst (.int 9223372036854775807 0))), .mk (o1 moveA (.cst (.int 9223372036854775807 21)))] [(6, 0), (5, 1), (4, 2)]
theorem kRef_27_eq : kx C run lp (kRef_27 C) ⟨kRef_T v0 v1 v4 v5 v6 v7 v8 v9 v24 v43 v47 v60 v63, h⟩ = kNrm (moveA (.int 18446744073709551615 0) h (fun a0 h => moveA (.int 9223372036854775807 0) h (fun a1 h => moveA (.int 9223372036854775807 21) h (fun a2 h => some (.st (kRef_T v0 v1 a0 a1 a2 v7 v8 v9 v24 v43 v47 v60 v63) h))))) := (rfl)
def kRef_28 (_ : Cx) : K := .ex .ret
theorem kRef_28_eq : kx C run lp (kRef_28 C) s = some (.ret, s) := (rfl)
def kRef_29 (C : Cx) : K := .seq (kRef_27 C) (kRef_28 C)
theorem kRef_29_eq : kx C run lp (kRef_29 C) s = obind (kx C run lp (kRef_27 C) s) (kThen (kx C run lp (kRef_28 C))) := (rfl)
def kRef_30 (_ : Cx) : K := .skip
theorem kRef_30_eq : kx C run lp (kRef_30 C) s = some (.nrm, s) := (rfl)
def kRef_31 (C : Cx) : K := .cond (.tr 60) (kRef_29 C) (kRef_30 C)
theorem kRef_31_eq : kx C run lp (kRef_31 C) ⟨kRef_T v0 v1 v4 v5 v6 v7 v8 v9 v24 v43 v47 v60 v63, h⟩ = kIf v60 (kx C run lp (kRef_29 C)) (kx C run lp (kRef_30 C)) ⟨kRef_T v0 v1 v4 v5 v6 v7 v8 v9 v24 v43 v47 v60 v63, h⟩ := (rfl)
def kRef_32 (C : Cx) : K := .seq (kRef_26 C) (kRef_31 C)
theorem kRef_32_eq : kx C run lp (kRef_32 C) s = obind (kx C run lp (kRef_26 C) s) (kThen (kx C run lp (kRef_31 C))) := (rfl)
def kRef_33 (C : Cx) : K := .reg [.mk (o1 moveA (.cst (.int 18446744073709551615 0)))] [(8, 0)]
theorem kRef_33_eq : kx C run lp (kRef_33 C) ⟨kRef_T v0 v1 v4 v5 v6 v7 v8 v9 v24 v43 v47 v60 v63, h⟩ = kNrm (moveA (.int 18446744073709551615 0) h (fun a0 h => some (.st (kRef_T v0 v1 v4 v5 v6 v7 a0 v9 v24 v43 v47 v60 v63) h))) := (rfl)
def kRef_34 (C : Cx) : K := .reg [.mk (o1 moveA (.tr 7)), .mk (o1 moveA (.st 0))] [(9, 0)]
theorem kRef_34_eq : kx C run lp (kRef_34 C) ⟨kRef_T v0 v1 v4 v5 v6 v7 v8 v9 v24 v43 v47 v60 v63, h⟩ = kNrm (moveA v7 h (fun a0 h => moveA a0 h (fun a1 h => some (.st (kRef_T v0 v1 v4 v5 v6 v7 v8 a1 v24 v43 v47 v60 v63) h)))) := (rfl)
def kRef_35 (C : Cx) : K := .reg [.mk (o1 moveA (.tr 9)), .mk (o2 (cmp ige) (.st 0) (.cst (.int 9223372036854775807 0)))] [(63, 0)]
theorem kRef_35_eq : kx C run lp (kRef_35 C) ⟨kRef_T v0 v1 v4 v5 v6 v7 v8 v9 v24 v43 v47 v60 v63, h⟩ = kNrm (moveA v9 h (fun a0 h => cmp ige a0 (.int 9223372036854775807 0) h (fun a1 h => some (.st (kRef_T v0 v1 v4 v5 v6 v7 v8 v9 v24 v43 v47 v60 a1) h)))) := (rfl)
def kRef_36 (_ : Cx) : K := .skip
theorem kRef_36_eq : kx C run lp (kRef_36 C) s = some (.nrm, s) := (rfl)
def kRef_37 (_ : Cx) : K := .ex (.exit 2)
theorem kRef_37_eq : kx C run lp (kRef_37 C) s = some (.exit 2, s) := (rfl)
def kRef_38 (C : Cx) : K := .cond (.tr 63) (kRef_36 C) (kRef_37 C)
theorem kRef_38_eq : kx C run lp (kRef_38 C) ⟨kRef_T v0 v1 v4 v5 v6 v7 v8 v9 v24 v43 v47 v60 v63, h⟩ = kIf v63 (kx C run lp (kRef_36 C)) (kx C run lp (kRef_37 C)) ⟨kRef_T v0 v1 v4 v5 v6 v7 v8 v9 v24 v43 v47 v60 v63, h⟩ := (rfl)
def kRef_39 (C : Cx) : K := .seq (kRef_35 C) (kRef_38 C)
theorem kRef_39_eq : kx C run lp (kRef_39 C) s = obind (kx C run lp (kRef_35 C) s) (kThen (kx C run lp (kRef_38 C))) := (rfl)
def kRef_40 (C : Cx) : K := .reg [.mk (o1 moveA (.tr 8)), .mk (o2 (arith imul) (.st 0) (.cst (.int 18446744073709551615 128))), .mk (o1 moveA (.tr 0)), .mk (o1 moveA (.tr 9)), .mk (o2 (idxS 1) (.st 1) (.st 0)), .mk (o1 load1 (.st 0)), .mk (o2 (remA) (.st 0) (.cst (.int 255 128))), .mk (o1 (cvI 18446744073709551615) (.st 0)), .mk (o2 (arith iadd) (.st 6) (.st 0)), .mk (o1 moveA (.st 0))] [(8, 0)]
theorem kRef_40_eq : kx C run lp (kRef_40 C) ⟨kRef_T v0 v1 v4 v5 v6 v7 v8 v9 v24 v43 v47 v60 v63, h⟩ = kNrm (moveA v8 h (fun a0 h => arith imul a0 (.int 18446744073709551615 128) h (fun a1 h => moveA v0 h (fun a2 h => moveA v9 h (fun a3 h => idxS 1 a2 a3 h (fun a4 h => load1 a4 h (fun a5 h => remA a5 (.int 255 128) h (fun a6 h => cvI 18446744073709551615 a6 h (fun a7 h => arith iadd a1 a7 h (fun a8 h => moveA a8 h (fun a9 h => some (.st (kRef_T v0 v1 v4 v5 v6 v7 a9 v9 v24 v43 v47 v60 v63) h)))))))))))) := (rfl)
def kRef_41 (C : Cx) : K := .block 3 (kRef_40 C)
theorem kRef_41_eq : kx C run lp (kRef_41 C) s = obind (kx C run lp (kRef_40 C) s) (kOut 3) := (rfl)
def kRef_42 (C : Cx) : K := .reg [.mk (o1 moveA (.tr 9)), .mk (o2 (arith isub) (.st 0) (.cst (.int 9223372036854775807 1))), .mk (o1 moveA (.st 0))] [(9, 0)]
theorem kRef_42_eq : kx C run lp (kRef_42 C) ⟨kRef_T v0 v1 v4 v5 v6 v7 v8 v9 v24 v43 v47 v60 v63, h⟩ = kNrm (moveA v9 h (fun a0 h => arith isub a0 (.int 9223372036854775807 1) h (fun a1 h => moveA a1 h (fun a2 h => some (.st (kRef_T v0 v1 v4 v5 v6 v7 v8 a2 v24 v43 v47 v60 v63) h))))) := (rfl)
def kRef_43 (C : Cx) : K := .seq (kRef_41 C) (kRef_42 C)
theorem kRef_43_eq : kx C run lp (kRef_43 C) s = obind (kx C run lp (kRef_41 C) s) (kThen (kx C run lp (kRef_42 C))) := (rfl)
def kRef_44 (C : Cx) : K := .seq (kRef_39 C) (kRef_43 C)
theorem kRef_44_eq : kx C run lp (kRef_44 C) s = obind (kx C run lp (kRef_39 C) s) (kThen (kx C run lp (kRef_43 C))) := (rfl)
def kRef_45 (C : Cx) : K := .loop (kRef_44 C)
theorem kRef_45_eq : kx C run lp (kRef_45 C) s = lp (kRef_44 C) s := (rfl)
def kRef_46 (C : Cx) : K := .block 2 (kRef_45 C)
theorem kRef_46_eq : kx C run lp (kRef_46 C) s = obind (kx C run lp (kRef_45 C) s) (kOut 2) := (rfl)
def kRef_47 (C : Cx) : K := .seq (kRef_34 C) (kRef_46 C)
theorem kRef_47_eq : kx C run lp (kRef_47 C) s = obind (kx C run lp (kRef_34 C) s) (kThen (kx C run lp (kRef_46 C))) := (rfl)
def kRef_48 (C : Cx) : K := .reg [.mk (o1 moveA (.tr 8)), .mk (o1 moveA (.tr 7)), .mk (o2 (arith iadd) (.st 0) (.cst (.int 9223372036854775807 1))), .mk (o1 moveA (.st 2)), .mk (o1 moveA (.st 1)), .mk (o1 moveA (.cst (.int 9223372036854775807 0)))] [(6, 0), (5, 1), (4, 2)]
theorem kRef_48_eq : kx C run lp (kRef_48 C) ⟨kRef_T v0 v1 v4 v5 v6 v7 v8 v9 v24 v43 v47 v60 v63, h⟩ = kNrm (moveA v8 h (fun a0 h => moveA v7 h (fun a1 h => arith iadd a1 (.int 9223372036854775807 1) h (fun a2 h => moveA a0 h (fun a3 h => moveA a2 h (fun a4 h => moveA (.int 9223372036854775807 0) h (fun a5 h => some (.st (kRef_T v0 v1 a3 a4 a5 v7 v8 v9 v24 v43 v47 v60 v63) h)))))))) := (rfl)
def kRef_49 (_ : Cx) : K := .ex .ret
theorem kRef_49_eq : kx C run lp (kRef_49 C) s = some (.ret, s) := (rfl)
def kRef_50 (C : Cx) : K := .seq (kRef_48 C) (kRef_49 C)
theorem kRef_50_eq : kx C run lp (kRef_50 C) s = obind (kx C run lp (kRef_48 C) s) (kThen (kx C run lp (kRef_49 C))) := (rfl)
def kRef_51 (C : Cx) : K := .seq (kRef_47 C) (kRef_50 C)
theorem kRef_51_eq : kx C run lp (kRef_51 C) s = obind (kx C run lp (kRef_47 C) s) (kThen (kx C run lp (kRef_50 C))) := (rfl)
def kRef_52 (C : Cx) : K := .seq (kRef_33 C) (kRef_51 C)
theorem kRef_52_eq : kx C run lp (kRef_52 C) s = obind (kx C run lp (kRef_33 C) s) (kThen (kx C run lp (kRef_51 C))) := (rfl)
def kRef_53 (C : Cx) : K := .seq (kRef_32 C) (kRef_52 C)
theorem kRef_53_eq : kx C run lp (kRef_53 C) s = obind (kx C run lp (kRef_32 C) s) (kThen (kx C run lp (kRef_52 C))) := (rfl)
def kRef_54 (C : Cx) : K := .seq (kRef_25 C) (kRef_53 C)
theorem kRef_54_eq : kx C run lp (kRef_54 C) s = obind (kx C run lp (kRef_25 C) s) (kThen (kx C run lp (kRef_53 C))) := (rfl)
def kRef_55 (C : Cx) : K := .seq (kRef_18 C) (kRef_54 C)
theorem kRef_55_eq : kx C run lp (kRef_55 C) s = obind (kx C run lp (kRef_18 C) s) (kThen (kx C run lp (kRef_54 C))) := (rfl)
def kRef_56 (C : Cx) : K := .seq (kRef_11 C) (kRef_55 C)
theorem kRef_56_eq : kx C run lp (kRef_56 C) s = obind (kx C run lp (kRef_11 C) s) (kThen (kx C run lp (kRef_55 C))) := (rfl)
def kRef_57 (C : Cx) : K := .seq (kRef_1 C) (kRef_56 C)
theorem kRef_57_eq : kx C run lp (kRef_57 C) s = obind (kx C run lp (kRef_1 C) s) (kThen (kx C run lp (kRef_56 C))) := (rfl)
def kRef_58 (C : Cx) : K := .seq (kRef_0 C) (kRef_57 C)
theorem kRef_58_eq : kx C run lp (kRef_58 C) s = obind (kx C run lp (kRef_0 C) s) (kThen (kx C run lp (kRef_57 C))) := (rfl)
theorem kRef_ret : endA C [.tmp 4, .tmp 5, .tmp 6] (.ret, ⟨kRef_T v0 v1 v4 v5 v6 v7 v8 v9 v24 v43 v47 v60 v63, h⟩) = some ((.tup [v4, v5, v6]), h) := (rfl)
theorem kRef_nrm : endA C [.tmp 4, .tmp 5, .tmp 6] (.nrm, ⟨kRef_T v0 v1 v4 v5 v6 v7 v8 v9 v24 v43 v47 v60 v63, h⟩) = some ((.tup [v4, v5, v6]), h) := (rfl)
end
def kRef_F (C : Cx) : FK := ⟨kRef_58 C, [0, 1, 4, 5, 6, 7, 8, 9, 24, 43, 47, 60, 63], 78, [.tmp 4, .tmp 5, .tmp 6]⟩
theorem kRef_run (C : Cx) (run : Run) (lp : Lp) (x0 x1 : AV) (h : AH) (ho : C.orc 8 = none) (hf : fkAt C 8 = some (kRef_F C)) : runF C run lp 8 [x0, x1] h = obind (kx C run lp (kRef_58 C) ⟨kRef_T x0 x1 .bot .bot .bot .bot .bot .bot .bot .bot .bot .bot .bot, h⟩) (endA C [.tmp 4, .tmp 5, .tmp 6]) := by
  unfold runF; rw [ho, hf]; rfl

theorem kRef_fk (mx : Int) : fkAt (CL mx) 8 = some (kRef_F (CL mx)) := by kernel_rfl
/-- How many bytes, up to so many, have more behind them. -/
def lead : Nat → List Nat → Nat
  | 0, _ => 0
  | _, [] => 0
  | k + 1, c :: r => if 128 ≤ c then lead k r + 1 else 0
/-- A number, the lowest seven bits first. -/
def lv : List Nat → Nat
  | [] => 0
  | c :: r => c % 128 + 128 * lv r
end
theorem lead_le : ∀ (k : Nat) (l : List Nat), lead k l ≤ l.length ∧ lead k l ≤ k
  | 0, l => by simp [lead]
  | k + 1, [] => by simp [lead]
  | k + 1, c :: r => by
    have := lead_le k r
    unfold lead
    split <;> simp <;> omega
theorem lead_get : ∀ (k : Nat) (l : List Nat) (i : Nat), i < lead k l → ∃ c, l[i]? = some c ∧ 128 ≤ c
  | 0, l, i, h => by simp [lead] at h
  | k + 1, [], i, h => by simp [lead] at h
  | k + 1, c :: r, i, h => by
    unfold lead at h
    split at h
    · rename_i hc
      cases i with
      | zero => exact ⟨c, rfl, hc⟩
      | succ i => exact lead_get k r i (by omega)
    · omega
theorem dec_lead : ∀ (l : List Nat) (acc cnt : Nat), cnt ≤ 9 → dec acc cnt l =
    if 9 ≤ cnt + lead (10 - cnt) l ∧ (∃ x, l[9 - cnt]? = some x ∧ 1 < x) then (20, 0, 0) else if lead (10 - cnt) l = l.length then (10, 0, 0) else (0, acc + lv (l.take (lead (10 - cnt) l + 1)) * 128 ^ cnt, cnt + lead (10 - cnt) l + 1)
  | [], acc, cnt, h => by
    rw [if_neg (by rintro ⟨_, x, hx, _⟩; simp at hx)]
    have : lead (10 - cnt) [] = 0 := by cases 10 - cnt <;> rfl
    rw [if_pos (by rw [this]; rfl)]; rfl
  | c :: r, acc, cnt, h => by
    obtain ⟨k, hk⟩ : ∃ k, 10 - cnt = k + 1 := ⟨9 - cnt, by omega⟩
    have hl : lead (10 - cnt) (c :: r) = if 128 ≤ c then lead k r + 1 else 0 := by rw [hk]; rfl
    unfold dec
    by_cases h1 : cnt = 9 ∧ 1 < c
    · rw [if_pos h1, if_pos]
      obtain ⟨rfl, h1⟩ := h1
      exact ⟨by omega, c, rfl, h1⟩
    · rw [if_neg h1]
      by_cases h2 : c < 128
      · rw [if_pos h2]
        rw [if_neg (by omega)] at hl
        rw [hl, if_neg, if_neg (by simp)]
        · simp [lv]
        · rintro ⟨a, x, hx, hx1⟩
          obtain rfl : cnt = 9 := by omega
          simp at hx
          subst hx
          exact h1 ⟨rfl, hx1⟩
      · rw [if_neg h2]
        have hc9 : cnt ≤ 8 := by omega
        rw [if_pos (by omega)] at hl
        have hk' : 10 - (cnt + 1) = k := by omega
        have ih := dec_lead r (acc + c % 128 * 128 ^ cnt) (cnt + 1) (by omega)
        rw [hk'] at ih
        rw [ih, hl]
        have e9 : (c :: r)[9 - cnt]? = r[9 - (cnt + 1)]? := by rw [show 9 - cnt = (9 - (cnt + 1)) + 1 by omega, List.getElem?_cons_succ]
        rw [e9, show cnt + (lead k r + 1) = cnt + 1 + lead k r by omega]
        have e3 : (lead k r + 1 = (c :: r).length) = (lead k r = r.length) := by simp
        simp only [e3]
        split
        · rfl
        · split
          · rfl
          · rw [List.take_succ_cons]
            show _ = (0, acc + (c % 128 + 128 * lv (r.take (lead k r + 1))) * 128 ^ cnt, _)
            rw [Nat.add_mul, Nat.pow_succ, Nat.mul_comm 128, ← Nat.add_assoc]
            congr 3
            rw [Nat.mul_assoc, Nat.mul_comm 128]
theorem lv_lt : ∀ l : List Nat, lv l < 128 ^ l.length
  | [] => by simp [lv]
  | c :: r => by
    have := lv_lt r
    unfold lv
    rw [List.length_cons, Nat.pow_succ]
    omega
theorem lv_snoc (x : Nat) : ∀ l : List Nat, lv (l ++ [x]) = lv l + 128 ^ l.length * (x % 128)
  | [] => by simp [lv]
  | c :: r => by
    show c % 128 + 128 * lv (r ++ [x]) = c % 128 + 128 * lv r + 128 ^ (r.length + 1) * (x % 128)
    rw [lv_snoc x r, Nat.pow_succ, Nat.mul_add, Nat.mul_comm (128 ^ r.length) 128, Nat.mul_assoc]
    omega
theorem lv_drop (l : List Nat) : ∀ j : Nat, lv (l.drop j) ≤ lv l := by
  intro j
  induction j generalizing l with
  | zero => simp
  | succ j ih =>
    cases l with
    | nil => simp
    | cons c r =>
      rw [List.drop_succ_cons]
      have := ih r
      show lv (r.drop j) ≤ c % 128 + 128 * lv r
      omega
theorem ref_loop1 (mx : Int) {h : AH} {v0 : AV} {bs : List Nat} (hd : SlAt h v0 (bytesA bs)) (hb : bs.length ≤ 1000000) (v1 v4 v5 v6 v8 v9 v43 v47 v60 v63 : AV) : ∀ (k i f : Nat) (v24 : AV), i + k = 10 → i ≤ bs.length → k + 2 ≤ f →
    (rl (CL mx) f).lp (kRef_9 (CL mx)) ⟨kRef_T v0 v1 v4 v5 v6 (.int 9223372036854775807 (i : Int)) v8 v9 v24 v43 v47 v60 v63, h⟩ = some (.exit 0, ⟨kRef_T v0 v1 v4 v5 v6 (.int 9223372036854775807 ((i + lead k (bs.drop i) : Nat) : Int)) v8 v9 (.bool false) v43 v47 v60 v63, h⟩) := by
  have hlen := fun h κ => hd.lenS h κ
  rw [bytesA_len] at hlen
  intro k
  induction k with
  | zero =>
    intro i f v24 hi hl hf
    obtain ⟨f, rfl⟩ : ∃ g, f = g + 1 := ⟨f - 1, by omega⟩
    obtain rfl : i = 10 := by omega
    have d10 : decide (((10 : Nat) : Int) < 10) = false := by decide
    rw [rl_lp]
    by_cases hlt : 10 < bs.length
    · have d1 : decide (((10 : Nat) : Int) < (bs.length : Int)) = true := by rw [decide_eq_true_iff]; omega
      simp only [guardC_b, guardC_u, beqB_tt, beqB_tf, beqB_ft, beqB_ff, min_eq, max_eq, vhO_kVH, ckN_eq, ckE_eq, List.length_set, ckX_same, bldS_int2, lt_agg, lt_tup, lt_int, lt_bool, lt_str, lt_nils, lt_sle, lt_nil, lt_slp, lt_ptp, kNrm_st, obindS, obindN, kThen_nrm, kThen_ret, kThen_exit, kOut_nrm, kOut_ret, kOut_exit, kIf_b, bqT, bqF, moveA_eq, pickA_eq, boxA_eq, newA_eq, cmp_eq, arith_eq, remA_eq, quoA_eq, notA_eq, negA_eq, cvI_eq, moveP_o, moveP_p, blkC_cells, load1_o, load1_p, loadG_o, loadG_p, store1_o, storeG_o, lenS_nils, lenS_sle, lenS_p, lenS_o, lenT_eq, idxS_p, idxS_o, idxT_eq, idxA_o, idxV1_eq, fld1_eq, fldG_eq, extA_eq, nilCk_o, nilCk_p, strAdd_eq, strCmp_eq, withX_some, withX_none, iaddE, isubE, imulE, iltE, igtE, ileE, igeE, ineE, ibeqE, hget_top, hget_zero, hget_succ, set_top, plains_nil, plains_cons, plain_int, plain_bool, plain_str, plain_nils, plain_slp, plain_sle, plain_nil, plain_pto, plain_ptp, plain_slo, nb_agg, nb_int, nb_bool, nb_str, nb_slp, nb_nils, nb_sle, nb_slo, cells_agg, cells_int, cells_bool, cells_str, List.length_cons, List.length_nil, List.length_append, List.take_succ_cons, List.take_zero, List.drop_succ_cons, List.drop_zero, List.cons_append, List.nil_append, List.append_nil, List.drop_nil, List.take_nil, List.getElem?_cons_zero, List.getElem?_cons_succ, List.set_cons_zero, List.set_cons_succ, Nat.reduceAdd, Nat.reduceMul, Nat.reduceSub, Nat.reduceLeDiff, Nat.reduceEqDiff, Nat.reduceLT, Nat.zero_add, Nat.add_zero, decide_true, decide_false, Bool.and_true, Bool.true_and, Bool.and_false, Bool.false_and, Bool.not_true, Bool.not_false, Nat.le_refl, reduceIte, kRef_0_eq, kRef_1_eq, kRef_2_eq, kRef_3_eq, kRef_4_eq, kRef_5_eq, kRef_6_eq, kRef_7_eq, kRef_8_eq, kRef_9_eq, kRef_10_eq, kRef_11_eq, kRef_12_eq, kRef_13_eq, kRef_14_eq, kRef_15_eq, kRef_16_eq, kRef_17_eq, kRef_18_eq, kRef_19_eq, kRef_20_eq, kRef_21_eq, kRef_22_eq, kRef_23_eq, kRef_24_eq, kRef_25_eq, kRef_26_eq, kRef_27_eq, kRef_28_eq, kRef_29_eq, kRef_30_eq, kRef_31_eq, kRef_32_eq, kRef_33_eq, kRef_34_eq, kRef_35_eq, kRef_36_eq, kRef_37_eq, kRef_38_eq, kRef_39_eq, kRef_40_eq, kRef_41_eq, kRef_42_eq, kRef_43_eq, kRef_44_eq, kRef_45_eq, kRef_46_eq, kRef_47_eq, kRef_48_eq, kRef_49_eq, kRef_50_eq, kRef_51_eq, kRef_52_eq, kRef_53_eq, kRef_54_eq, kRef_55_eq, kRef_56_eq, kRef_57_eq, kRef_58_eq, kRef_ret, kRef_nrm, hlen, d1, d10, lead]
    · have d1 : decide (((10 : Nat) : Int) < (bs.length : Int)) = false := by rw [decide_eq_false_iff_not]; omega
      simp only [guardC_b, guardC_u, beqB_tt, beqB_tf, beqB_ft, beqB_ff, min_eq, max_eq, vhO_kVH, ckN_eq, ckE_eq, List.length_set, ckX_same, bldS_int2, lt_agg, lt_tup, lt_int, lt_bool, lt_str, lt_nils, lt_sle, lt_nil, lt_slp, lt_ptp, kNrm_st, obindS, obindN, kThen_nrm, kThen_ret, kThen_exit, kOut_nrm, kOut_ret, kOut_exit, kIf_b, bqT, bqF, moveA_eq, pickA_eq, boxA_eq, newA_eq, cmp_eq, arith_eq, remA_eq, quoA_eq, notA_eq, negA_eq, cvI_eq, moveP_o, moveP_p, blkC_cells, load1_o, load1_p, loadG_o, loadG_p, store1_o, storeG_o, lenS_nils, lenS_sle, lenS_p, lenS_o, lenT_eq, idxS_p, idxS_o, idxT_eq, idxA_o, idxV1_eq, fld1_eq, fldG_eq, extA_eq, nilCk_o, nilCk_p, strAdd_eq, strCmp_eq, withX_some, withX_none, iaddE, isubE, imulE, iltE, igtE, ileE, igeE, ineE, ibeqE, hget_top, hget_zero, hget_succ, set_top, plains_nil, plains_cons, plain_int, plain_bool, plain_str, plain_nils, plain_slp, plain_sle, plain_nil, plain_pto, plain_ptp, plain_slo, nb_agg, nb_int, nb_bool, nb_str, nb_slp, nb_nils, nb_sle, nb_slo, cells_agg, cells_int, cells_bool, cells_str, List.length_cons, List.length_nil, List.length_append, List.take_succ_cons, List.take_zero, List.drop_succ_cons, List.drop_zero, List.cons_append, List.nil_append, List.append_nil, List.drop_nil, List.take_nil, List.getElem?_cons_zero, List.getElem?_cons_succ, List.set_cons_zero, List.set_cons_succ, Nat.reduceAdd, Nat.reduceMul, Nat.reduceSub, Nat.reduceLeDiff, Nat.reduceEqDiff, Nat.reduceLT, Nat.zero_add, Nat.add_zero, decide_true, decide_false, Bool.and_true, Bool.true_and, Bool.and_false, Bool.false_and, Bool.not_true, Bool.not_false, Nat.le_refl, reduceIte, kRef_0_eq, kRef_1_eq, kRef_2_eq, kRef_3_eq, kRef_4_eq, kRef_5_eq, kRef_6_eq, kRef_7_eq, kRef_8_eq, kRef_9_eq, kRef_10_eq, kRef_11_eq, kRef_12_eq, kRef_13_eq, kRef_14_eq, kRef_15_eq, kRef_16_eq, kRef_17_eq, kRef_18_eq, kRef_19_eq, kRef_20_eq, kRef_21_eq, kRef_22_eq, kRef_23_eq, kRef_24_eq, kRef_25_eq, kRef_26_eq, kRef_27_eq, kRef_28_eq, kRef_29_eq, kRef_30_eq, kRef_31_eq, kRef_32_eq, kRef_33_eq, kRef_34_eq, kRef_35_eq, kRef_36_eq, kRef_37_eq, kRef_38_eq, kRef_39_eq, kRef_40_eq, kRef_41_eq, kRef_42_eq, kRef_43_eq, kRef_44_eq, kRef_45_eq, kRef_46_eq, kRef_47_eq, kRef_48_eq, kRef_49_eq, kRef_50_eq, kRef_51_eq, kRef_52_eq, kRef_53_eq, kRef_54_eq, kRef_55_eq, kRef_56_eq, kRef_57_eq, kRef_58_eq, kRef_ret, kRef_nrm, hlen, d1, lead]
  | succ k ih =>
    intro i f v24 hi hl hf
    obtain ⟨f, rfl⟩ : ∃ g, f = g + 1 := ⟨f - 1, by omega⟩
    have d10 : decide ((i : Int) < 10) = true := by rw [decide_eq_true_iff]; omega
    rw [rl_lp]
    cases hc : bs[i]? with
    | none =>
      have hge := List.getElem?_eq_none_iff.1 hc
      have d1 : decide ((i : Int) < (bs.length : Int)) = false := by rw [decide_eq_false_iff_not]; omega
      have hz : bs.drop i = [] := List.drop_eq_nil_iff.2 hge
      rw [hz]
      simp only [guardC_b, guardC_u, beqB_tt, beqB_tf, beqB_ft, beqB_ff, min_eq, max_eq, vhO_kVH, ckN_eq, ckE_eq, List.length_set, ckX_same, bldS_int2, lt_agg, lt_tup, lt_int, lt_bool, lt_str, lt_nils, lt_sle, lt_nil, lt_slp, lt_ptp, kNrm_st, obindS, obindN, kThen_nrm, kThen_ret, kThen_exit, kOut_nrm, kOut_ret, kOut_exit, kIf_b, bqT, bqF, moveA_eq, pickA_eq, boxA_eq, newA_eq, cmp_eq, arith_eq, remA_eq, quoA_eq, notA_eq, negA_eq, cvI_eq, moveP_o, moveP_p, blkC_cells, load1_o, load1_p, loadG_o, loadG_p, store1_o, storeG_o, lenS_nils, lenS_sle, lenS_p, lenS_o, lenT_eq, idxS_p, idxS_o, idxT_eq, idxA_o, idxV1_eq, fld1_eq, fldG_eq, extA_eq, nilCk_o, nilCk_p, strAdd_eq, strCmp_eq, withX_some, withX_none, iaddE, isubE, imulE, iltE, igtE, ileE, igeE, ineE, ibeqE, hget_top, hget_zero, hget_succ, set_top, plains_nil, plains_cons, plain_int, plain_bool, plain_str, plain_nils, plain_slp, plain_sle, plain_nil, plain_pto, plain_ptp, plain_slo, nb_agg, nb_int, nb_bool, nb_str, nb_slp, nb_nils, nb_sle, nb_slo, cells_agg, cells_int, cells_bool, cells_str, List.length_cons, List.length_nil, List.length_append, List.take_succ_cons, List.take_zero, List.drop_succ_cons, List.drop_zero, List.cons_append, List.nil_append, List.append_nil, List.drop_nil, List.take_nil, List.getElem?_cons_zero, List.getElem?_cons_succ, List.set_cons_zero, List.set_cons_succ, Nat.reduceAdd, Nat.reduceMul, Nat.reduceSub, Nat.reduceLeDiff, Nat.reduceEqDiff, Nat.reduceLT, Nat.zero_add, Nat.add_zero, decide_true, decide_false, Bool.and_true, Bool.true_and, Bool.and_false, Bool.false_and, Bool.not_true, Bool.not_false, Nat.le_refl, reduceIte, kRef_0_eq, kRef_1_eq, kRef_2_eq, kRef_3_eq, kRef_4_eq, kRef_5_eq, kRef_6_eq, kRef_7_eq, kRef_8_eq, kRef_9_eq, kRef_10_eq, kRef_11_eq, kRef_12_eq, kRef_13_eq, kRef_14_eq, kRef_15_eq, kRef_16_eq, kRef_17_eq, kRef_18_eq, kRef_19_eq, kRef_20_eq, kRef_21_eq, kRef_22_eq, kRef_23_eq, kRef_24_eq, kRef_25_eq, kRef_26_eq, kRef_27_eq, kRef_28_eq, kRef_29_eq, kRef_30_eq, kRef_31_eq, kRef_32_eq, kRef_33_eq, kRef_34_eq, kRef_35_eq, kRef_36_eq, kRef_37_eq, kRef_38_eq, kRef_39_eq, kRef_40_eq, kRef_41_eq, kRef_42_eq, kRef_43_eq, kRef_44_eq, kRef_45_eq, kRef_46_eq, kRef_47_eq, kRef_48_eq, kRef_49_eq, kRef_50_eq, kRef_51_eq, kRef_52_eq, kRef_53_eq, kRef_54_eq, kRef_55_eq, kRef_56_eq, kRef_57_eq, kRef_58_eq, kRef_ret, kRef_nrm, hlen, d1, lead]
    | some c =>
      have hlt := (List.getElem?_eq_some_iff.1 hc).1
      have d1 : decide ((i : Int) < (bs.length : Int)) = true := by rw [decide_eq_true_iff]; omega
      obtain ⟨p, p1, p2, p3⟩ := hd.idx (i := i) (c := .int 255 (c : Int)) (by unfold bytesA; rw [List.getElem?_map, hc]; rfl)
      have hdr : bs.drop i = c :: bs.drop (i + 1) := by rw [List.drop_eq_getElem_cons hlt, (List.getElem?_eq_some_iff.1 hc).2]
      rw [hdr]
      by_cases hs : 128 ≤ c
      · have d2 : decide ((128 : Int) ≤ (c : Int)) = true := by rw [decide_eq_true_iff]; omega
        have w : wrapA 9223372036854775807 ((i : Int) + 1) = ((i + 1 : Nat) : Int) := by rw [wrapA_i64 (by omega) (by omega)]; push_cast; rfl
        have := ih (i + 1) f (.bool true) (by omega) (by omega) (by omega)
        rw [show i + 1 + lead k (bs.drop (i + 1)) = i + lead (k + 1) (c :: bs.drop (i + 1)) by show _ = i + (if 128 ≤ c then lead k (bs.drop (i + 1)) + 1 else 0); rw [if_pos hs]; omega] at this
        simp only [guardC_b, guardC_u, beqB_tt, beqB_tf, beqB_ft, beqB_ff, min_eq, max_eq, vhO_kVH, ckN_eq, ckE_eq, List.length_set, ckX_same, bldS_int2, lt_agg, lt_tup, lt_int, lt_bool, lt_str, lt_nils, lt_sle, lt_nil, lt_slp, lt_ptp, kNrm_st, obindS, obindN, kThen_nrm, kThen_ret, kThen_exit, kOut_nrm, kOut_ret, kOut_exit, kIf_b, bqT, bqF, moveA_eq, pickA_eq, boxA_eq, newA_eq, cmp_eq, arith_eq, remA_eq, quoA_eq, notA_eq, negA_eq, cvI_eq, moveP_o, moveP_p, blkC_cells, load1_o, load1_p, loadG_o, loadG_p, store1_o, storeG_o, lenS_nils, lenS_sle, lenS_p, lenS_o, lenT_eq, idxS_p, idxS_o, idxT_eq, idxA_o, idxV1_eq, fld1_eq, fldG_eq, extA_eq, nilCk_o, nilCk_p, strAdd_eq, strCmp_eq, withX_some, withX_none, iaddE, isubE, imulE, iltE, igtE, ileE, igeE, ineE, ibeqE, hget_top, hget_zero, hget_succ, set_top, plains_nil, plains_cons, plain_int, plain_bool, plain_str, plain_nils, plain_slp, plain_sle, plain_nil, plain_pto, plain_ptp, plain_slo, nb_agg, nb_int, nb_bool, nb_str, nb_slp, nb_nils, nb_sle, nb_slo, cells_agg, cells_int, cells_bool, cells_str, List.length_cons, List.length_nil, List.length_append, List.take_succ_cons, List.take_zero, List.drop_succ_cons, List.drop_zero, List.cons_append, List.nil_append, List.append_nil, List.drop_nil, List.take_nil, List.getElem?_cons_zero, List.getElem?_cons_succ, List.set_cons_zero, List.set_cons_succ, Nat.reduceAdd, Nat.reduceMul, Nat.reduceSub, Nat.reduceLeDiff, Nat.reduceEqDiff, Nat.reduceLT, Nat.zero_add, Nat.add_zero, decide_true, decide_false, Bool.and_true, Bool.true_and, Bool.and_false, Bool.false_and, Bool.not_true, Bool.not_false, Nat.le_refl, reduceIte, kRef_0_eq, kRef_1_eq, kRef_2_eq, kRef_3_eq, kRef_4_eq, kRef_5_eq, kRef_6_eq, kRef_7_eq, kRef_8_eq, kRef_9_eq, kRef_10_eq, kRef_11_eq, kRef_12_eq, kRef_13_eq, kRef_14_eq, kRef_15_eq, kRef_16_eq, kRef_17_eq, kRef_18_eq, kRef_19_eq, kRef_20_eq, kRef_21_eq, kRef_22_eq, kRef_23_eq, kRef_24_eq, kRef_25_eq, kRef_26_eq, kRef_27_eq, kRef_28_eq, kRef_29_eq, kRef_30_eq, kRef_31_eq, kRef_32_eq, kRef_33_eq, kRef_34_eq, kRef_35_eq, kRef_36_eq, kRef_37_eq, kRef_38_eq, kRef_39_eq, kRef_40_eq, kRef_41_eq, kRef_42_eq, kRef_43_eq, kRef_44_eq, kRef_45_eq, kRef_46_eq, kRef_47_eq, kRef_48_eq, kRef_49_eq, kRef_50_eq, kRef_51_eq, kRef_52_eq, kRef_53_eq, kRef_54_eq, kRef_55_eq, kRef_56_eq, kRef_57_eq, kRef_58_eq, kRef_ret, kRef_nrm, hlen, d1, d10, p2, p3, d2, w]
        exact this
      · have d2 : decide ((128 : Int) ≤ (c : Int)) = false := by rw [decide_eq_false_iff_not]; omega
        simp only [guardC_b, guardC_u, beqB_tt, beqB_tf, beqB_ft, beqB_ff, min_eq, max_eq, vhO_kVH, ckN_eq, ckE_eq, List.length_set, ckX_same, bldS_int2, lt_agg, lt_tup, lt_int, lt_bool, lt_str, lt_nils, lt_sle, lt_nil, lt_slp, lt_ptp, kNrm_st, obindS, obindN, kThen_nrm, kThen_ret, kThen_exit, kOut_nrm, kOut_ret, kOut_exit, kIf_b, bqT, bqF, moveA_eq, pickA_eq, boxA_eq, newA_eq, cmp_eq, arith_eq, remA_eq, quoA_eq, notA_eq, negA_eq, cvI_eq, moveP_o, moveP_p, blkC_cells, load1_o, load1_p, loadG_o, loadG_p, store1_o, storeG_o, lenS_nils, lenS_sle, lenS_p, lenS_o, lenT_eq, idxS_p, idxS_o, idxT_eq, idxA_o, idxV1_eq, fld1_eq, fldG_eq, extA_eq, nilCk_o, nilCk_p, strAdd_eq, strCmp_eq, withX_some, withX_none, iaddE, isubE, imulE, iltE, igtE, ileE, igeE, ineE, ibeqE, hget_top, hget_zero, hget_succ, set_top, plains_nil, plains_cons, plain_int, plain_bool, plain_str, plain_nils, plain_slp, plain_sle, plain_nil, plain_pto, plain_ptp, plain_slo, nb_agg, nb_int, nb_bool, nb_str, nb_slp, nb_nils, nb_sle, nb_slo, cells_agg, cells_int, cells_bool, cells_str, List.length_cons, List.length_nil, List.length_append, List.take_succ_cons, List.take_zero, List.drop_succ_cons, List.drop_zero, List.cons_append, List.nil_append, List.append_nil, List.drop_nil, List.take_nil, List.getElem?_cons_zero, List.getElem?_cons_succ, List.set_cons_zero, List.set_cons_succ, Nat.reduceAdd, Nat.reduceMul, Nat.reduceSub, Nat.reduceLeDiff, Nat.reduceEqDiff, Nat.reduceLT, Nat.zero_add, Nat.add_zero, decide_true, decide_false, Bool.and_true, Bool.true_and, Bool.and_false, Bool.false_and, Bool.not_true, Bool.not_false, Nat.le_refl, reduceIte, kRef_0_eq, kRef_1_eq, kRef_2_eq, kRef_3_eq, kRef_4_eq, kRef_5_eq, kRef_6_eq, kRef_7_eq, kRef_8_eq, kRef_9_eq, kRef_10_eq, kRef_11_eq, kRef_12_eq, kRef_13_eq, kRef_14_eq, kRef_15_eq, kRef_16_eq, kRef_17_eq, kRef_18_eq, kRef_19_eq, kRef_20_eq, kRef_21_eq, kRef_22_eq, kRef_23_eq, kRef_24_eq, kRef_25_eq, kRef_26_eq, kRef_27_eq, kRef_28_eq, kRef_29_eq, kRef_30_eq, kRef_31_eq, kRef_32_eq, kRef_33_eq, kRef_34_eq, kRef_35_eq, kRef_36_eq, kRef_37_eq, kRef_38_eq, kRef_39_eq, kRef_40_eq, kRef_41_eq, kRef_42_eq, kRef_43_eq, kRef_44_eq, kRef_45_eq, kRef_46_eq, kRef_47_eq, kRef_48_eq, kRef_49_eq, kRef_50_eq, kRef_51_eq, kRef_52_eq, kRef_53_eq, kRef_54_eq, kRef_55_eq, kRef_56_eq, kRef_57_eq, kRef_58_eq, kRef_ret, kRef_nrm, hlen, d1, d10, p2, p3, d2, lead, if_neg hs]
theorem ref_loop2 (mx : Int) {h : AH} {v0 : AV} {bs : List Nat} (hd : SlAt h v0 (bytesA bs)) (l : List Nat) (hl : l = bs.take l.length) (hc : ∀ c ∈ bs, c < 256) (hv : lv l ≤ 18446744073709551615) (v1 v4 v5 v6 v7 v24 v43 v47 v60 : AV) : ∀ (j f : Nat) (v63 : AV), j ≤ l.length → j ≤ 1000 → j + 2 ≤ f →
    (rl (CL mx) f).lp (kRef_44 (CL mx)) ⟨kRef_T v0 v1 v4 v5 v6 v7 (.int 18446744073709551615 (lv (l.drop j) : Int)) (.int 9223372036854775807 ((j : Int) - 1)) v24 v43 v47 v60 v63, h⟩ = some (.exit 2, ⟨kRef_T v0 v1 v4 v5 v6 v7 (.int 18446744073709551615 (lv l : Int)) (.int 9223372036854775807 (-1)) v24 v43 v47 v60 (.bool false), h⟩) := by
  intro j
  induction j with
  | zero =>
    intro f v63 hj hj2 hf
    obtain ⟨f, rfl⟩ : ∃ g, f = g + 1 := ⟨f - 1, by omega⟩
    have d1 : decide ((0 : Int) ≤ -1) = false := by decide
    rw [rl_lp, show ((0 : Nat) : Int) - 1 = -1 from rfl]
    simp only [guardC_b, guardC_u, beqB_tt, beqB_tf, beqB_ft, beqB_ff, min_eq, max_eq, vhO_kVH, ckN_eq, ckE_eq, List.length_set, ckX_same, bldS_int2, lt_agg, lt_tup, lt_int, lt_bool, lt_str, lt_nils, lt_sle, lt_nil, lt_slp, lt_ptp, kNrm_st, obindS, obindN, kThen_nrm, kThen_ret, kThen_exit, kOut_nrm, kOut_ret, kOut_exit, kIf_b, bqT, bqF, moveA_eq, pickA_eq, boxA_eq, newA_eq, cmp_eq, arith_eq, remA_eq, quoA_eq, notA_eq, negA_eq, cvI_eq, moveP_o, moveP_p, blkC_cells, load1_o, load1_p, loadG_o, loadG_p, store1_o, storeG_o, lenS_nils, lenS_sle, lenS_p, lenS_o, lenT_eq, idxS_p, idxS_o, idxT_eq, idxA_o, idxV1_eq, fld1_eq, fldG_eq, extA_eq, nilCk_o, nilCk_p, strAdd_eq, strCmp_eq, withX_some, withX_none, iaddE, isubE, imulE, iltE, igtE, ileE, igeE, ineE, ibeqE, hget_top, hget_zero, hget_succ, set_top, plains_nil, plains_cons, plain_int, plain_bool, plain_str, plain_nils, plain_slp, plain_sle, plain_nil, plain_pto, plain_ptp, plain_slo, nb_agg, nb_int, nb_bool, nb_str, nb_slp, nb_nils, nb_sle, nb_slo, cells_agg, cells_int, cells_bool, cells_str, List.length_cons, List.length_nil, List.length_append, List.take_succ_cons, List.take_zero, List.drop_succ_cons, List.drop_zero, List.cons_append, List.nil_append, List.append_nil, List.drop_nil, List.take_nil, List.getElem?_cons_zero, List.getElem?_cons_succ, List.set_cons_zero, List.set_cons_succ, Nat.reduceAdd, Nat.reduceMul, Nat.reduceSub, Nat.reduceLeDiff, Nat.reduceEqDiff, Nat.reduceLT, Nat.zero_add, Nat.add_zero, decide_true, decide_false, Bool.and_true, Bool.true_and, Bool.and_false, Bool.false_and, Bool.not_true, Bool.not_false, Nat.le_refl, reduceIte, kRef_0_eq, kRef_1_eq, kRef_2_eq, kRef_3_eq, kRef_4_eq, kRef_5_eq, kRef_6_eq, kRef_7_eq, kRef_8_eq, kRef_9_eq, kRef_10_eq, kRef_11_eq, kRef_12_eq, kRef_13_eq, kRef_14_eq, kRef_15_eq, kRef_16_eq, kRef_17_eq, kRef_18_eq, kRef_19_eq, kRef_20_eq, kRef_21_eq, kRef_22_eq, kRef_23_eq, kRef_24_eq, kRef_25_eq, kRef_26_eq, kRef_27_eq, kRef_28_eq, kRef_29_eq, kRef_30_eq, kRef_31_eq, kRef_32_eq, kRef_33_eq, kRef_34_eq, kRef_35_eq, kRef_36_eq, kRef_37_eq, kRef_38_eq, kRef_39_eq, kRef_40_eq, kRef_41_eq, kRef_42_eq, kRef_43_eq, kRef_44_eq, kRef_45_eq, kRef_46_eq, kRef_47_eq, kRef_48_eq, kRef_49_eq, kRef_50_eq, kRef_51_eq, kRef_52_eq, kRef_53_eq, kRef_54_eq, kRef_55_eq, kRef_56_eq, kRef_57_eq, kRef_58_eq, kRef_ret, kRef_nrm, d1]
  | succ j ih =>
    intro f v63 hj hj2 hf
    obtain ⟨f, rfl⟩ : ∃ g, f = g + 1 := ⟨f - 1, by omega⟩
    have d1 : decide ((0 : Int) ≤ (j : Int)) = true := by rw [decide_eq_true_iff]; omega
    rw [rl_lp, show ((j + 1 : Nat) : Int) - 1 = (j : Int) by omega]
    obtain ⟨c, hcl⟩ : ∃ c, l[j]? = some c := ⟨_, List.getElem?_eq_getElem (by omega)⟩
    have hcb : bs[j]? = some c := by
      rw [hl, List.getElem?_take_of_lt (by omega)] at hcl; exact hcl
    have hc256 := hc c (List.mem_of_getElem? hcb)
    obtain ⟨p, p1, p2, p3⟩ := hd.idx (i := j) (c := .int 255 (c : Int)) (by unfold bytesA; rw [List.getElem?_map, hcb]; rfl)
    have hdr : l.drop j = c :: l.drop (j + 1) := by rw [List.drop_eq_getElem_cons (by omega), (List.getElem?_eq_some_iff.1 hcl).2]
    have hlv : lv (l.drop j) = c % 128 + 128 * lv (l.drop (j + 1)) := by rw [hdr]; rfl
    have hle := lv_drop l j
    have r1 : irem (c : Int) 128 = ((c % 128 : Nat) : Int) := irem_nat c 128
    have d128 : decide ((128 : Int) ≠ 0) = true := by decide
    have w1 : wrapA 18446744073709551615 ((c % 128 : Nat) : Int) = ((c % 128 : Nat) : Int) := wrapA_nat (by omega)
    have w2 : wrapA 18446744073709551615 ((lv (l.drop (j + 1)) : Int) * 128) = ((lv (l.drop (j + 1)) * 128 : Nat) : Int) := by
      rw [show (lv (l.drop (j + 1)) : Int) * 128 = ((lv (l.drop (j + 1)) * 128 : Nat) : Int) by push_cast; rfl, wrapA_nat (by omega)]
    have w3 : wrapA 18446744073709551615 (((lv (l.drop (j + 1)) * 128 : Nat) : Int) + ((c % 128 : Nat) : Int)) = ((lv (l.drop j) : Nat) : Int) := by
      rw [show ((lv (l.drop (j + 1)) * 128 : Nat) : Int) + ((c % 128 : Nat) : Int) = ((lv (l.drop j) : Nat) : Int) by rw [hlv]; push_cast; omega, wrapA_nat (by omega)]
    have w4 : wrapA 9223372036854775807 ((j : Int) - 1) = (j : Int) - 1 := wrapA_i64 (by omega) (by omega)
    have := ih f (.bool true) (by omega) (by omega) (by omega)
    simp only [guardC_b, guardC_u, beqB_tt, beqB_tf, beqB_ft, beqB_ff, min_eq, max_eq, vhO_kVH, ckN_eq, ckE_eq, List.length_set, ckX_same, bldS_int2, lt_agg, lt_tup, lt_int, lt_bool, lt_str, lt_nils, lt_sle, lt_nil, lt_slp, lt_ptp, kNrm_st, obindS, obindN, kThen_nrm, kThen_ret, kThen_exit, kOut_nrm, kOut_ret, kOut_exit, kIf_b, bqT, bqF, moveA_eq, pickA_eq, boxA_eq, newA_eq, cmp_eq, arith_eq, remA_eq, quoA_eq, notA_eq, negA_eq, cvI_eq, moveP_o, moveP_p, blkC_cells, load1_o, load1_p, loadG_o, loadG_p, store1_o, storeG_o, lenS_nils, lenS_sle, lenS_p, lenS_o, lenT_eq, idxS_p, idxS_o, idxT_eq, idxA_o, idxV1_eq, fld1_eq, fldG_eq, extA_eq, nilCk_o, nilCk_p, strAdd_eq, strCmp_eq, withX_some, withX_none, iaddE, isubE, imulE, iltE, igtE, ileE, igeE, ineE, ibeqE, hget_top, hget_zero, hget_succ, set_top, plains_nil, plains_cons, plain_int, plain_bool, plain_str, plain_nils, plain_slp, plain_sle, plain_nil, plain_pto, plain_ptp, plain_slo, nb_agg, nb_int, nb_bool, nb_str, nb_slp, nb_nils, nb_sle, nb_slo, cells_agg, cells_int, cells_bool, cells_str, List.length_cons, List.length_nil, List.length_append, List.take_succ_cons, List.take_zero, List.drop_succ_cons, List.drop_zero, List.cons_append, List.nil_append, List.append_nil, List.drop_nil, List.take_nil, List.getElem?_cons_zero, List.getElem?_cons_succ, List.set_cons_zero, List.set_cons_succ, Nat.reduceAdd, Nat.reduceMul, Nat.reduceSub, Nat.reduceLeDiff, Nat.reduceEqDiff, Nat.reduceLT, Nat.zero_add, Nat.add_zero, decide_true, decide_false, Bool.and_true, Bool.true_and, Bool.and_false, Bool.false_and, Bool.not_true, Bool.not_false, Nat.le_refl, reduceIte, kRef_0_eq, kRef_1_eq, kRef_2_eq, kRef_3_eq, kRef_4_eq, kRef_5_eq, kRef_6_eq, kRef_7_eq, kRef_8_eq, kRef_9_eq, kRef_10_eq, kRef_11_eq, kRef_12_eq, kRef_13_eq, kRef_14_eq, kRef_15_eq, kRef_16_eq, kRef_17_eq, kRef_18_eq, kRef_19_eq, kRef_20_eq, kRef_21_eq, kRef_22_eq, kRef_23_eq, kRef_24_eq, kRef_25_eq, kRef_26_eq, kRef_27_eq, kRef_28_eq, kRef_29_eq, kRef_30_eq, kRef_31_eq, kRef_32_eq, kRef_33_eq, kRef_34_eq, kRef_35_eq, kRef_36_eq, kRef_37_eq, kRef_38_eq, kRef_39_eq, kRef_40_eq, kRef_41_eq, kRef_42_eq, kRef_43_eq, kRef_44_eq, kRef_45_eq, kRef_46_eq, kRef_47_eq, kRef_48_eq, kRef_49_eq, kRef_50_eq, kRef_51_eq, kRef_52_eq, kRef_53_eq, kRef_54_eq, kRef_55_eq, kRef_56_eq, kRef_57_eq, kRef_58_eq, kRef_ret, kRef_nrm, d1, p2, p3, r1, d128, w1, w2, w3, w4]
    exact this
theorem ref_run (mx : Int) (f : Nat) (hf : 20 ≤ f) {h : AH} {d : AV} {bs : List Nat} (hd : SlAt h d (bytesA bs)) (hb : bs.length ≤ 1000000) (hc : ∀ c ∈ bs, c < 256) :
    (rl (CL mx) (f + 1)).run 8 [d, .bool true] h = some (.tup [.int 18446744073709551615 ((dec 0 0 bs).2.1 : Int), .int 9223372036854775807 ((dec 0 0 bs).2.2 : Int), .int 9223372036854775807 ((dec 0 0 bs).1 : Int)], h) := by
  rw [rl_run, kRef_run _ _ _ _ _ _ (by kernel_rfl) (kRef_fk mx)]
  have hlen := fun h κ => hd.lenS h κ
  rw [bytesA_len] at hlen
  have hl1 := ref_loop1 mx hd hb (.bool true) (.int 18446744073709551615 0) (.int 9223372036854775807 0) (.int 9223372036854775807 0) .bot .bot .bot .bot .bot .bot 10 0 f .bot (by omega) (by omega) (by omega)
  rw [List.drop_zero, Nat.zero_add, show ((0 : Nat) : Int) = 0 from rfl] at hl1
  have hdl := dec_lead bs 0 0 (by omega)
  simp only [Nat.sub_zero, Nat.zero_add, Nat.pow_zero, Nat.mul_one] at hdl
  obtain ⟨m1, m2⟩ := lead_le 10 bs
  have mg := lead_get 10 bs
  generalize hM : lead 10 bs = M at *
  by_cases hC : 9 ≤ M ∧ ∃ x, bs[9]? = some x ∧ 1 < x
  · rw [if_pos hC] at hdl
    rw [hdl]
    obtain ⟨h9, x, hx, hx1⟩ := hC
    have hlt := (List.getElem?_eq_some_iff.1 hx).1
    obtain ⟨p, p1, p2, p3⟩ := hd.idx (i := 9) (c := .int 255 (x : Int)) (by unfold bytesA; rw [List.getElem?_map, hx]; rfl)
    rw [show ((9 : Nat) : Int) = 9 from rfl] at p2
    have d1 : decide ((9 : Int) ≤ (M : Int)) = true := by rw [decide_eq_true_iff]; omega
    have d2 : decide ((9 : Int) < (bs.length : Int)) = true := by rw [decide_eq_true_iff]; omega
    have d3 : decide ((1 : Int) < (x : Int)) = true := by rw [decide_eq_true_iff]; omega
    simp only [guardC_b, guardC_u, beqB_tt, beqB_tf, beqB_ft, beqB_ff, min_eq, max_eq, vhO_kVH, ckN_eq, ckE_eq, List.length_set, ckX_same, bldS_int2, lt_agg, lt_tup, lt_int, lt_bool, lt_str, lt_nils, lt_sle, lt_nil, lt_slp, lt_ptp, kNrm_st, obindS, obindN, kThen_nrm, kThen_ret, kThen_exit, kOut_nrm, kOut_ret, kOut_exit, kIf_b, bqT, bqF, moveA_eq, pickA_eq, boxA_eq, newA_eq, cmp_eq, arith_eq, remA_eq, quoA_eq, notA_eq, negA_eq, cvI_eq, moveP_o, moveP_p, blkC_cells, load1_o, load1_p, loadG_o, loadG_p, store1_o, storeG_o, lenS_nils, lenS_sle, lenS_p, lenS_o, lenT_eq, idxS_p, idxS_o, idxT_eq, idxA_o, idxV1_eq, fld1_eq, fldG_eq, extA_eq, nilCk_o, nilCk_p, strAdd_eq, strCmp_eq, withX_some, withX_none, iaddE, isubE, imulE, iltE, igtE, ileE, igeE, ineE, ibeqE, hget_top, hget_zero, hget_succ, set_top, plains_nil, plains_cons, plain_int, plain_bool, plain_str, plain_nils, plain_slp, plain_sle, plain_nil, plain_pto, plain_ptp, plain_slo, nb_agg, nb_int, nb_bool, nb_str, nb_slp, nb_nils, nb_sle, nb_slo, cells_agg, cells_int, cells_bool, cells_str, List.length_cons, List.length_nil, List.length_append, List.take_succ_cons, List.take_zero, List.drop_succ_cons, List.drop_zero, List.cons_append, List.nil_append, List.append_nil, List.drop_nil, List.take_nil, List.getElem?_cons_zero, List.getElem?_cons_succ, List.set_cons_zero, List.set_cons_succ, Nat.reduceAdd, Nat.reduceMul, Nat.reduceSub, Nat.reduceLeDiff, Nat.reduceEqDiff, Nat.reduceLT, Nat.zero_add, Nat.add_zero, decide_true, decide_false, Bool.and_true, Bool.true_and, Bool.and_false, Bool.false_and, Bool.not_true, Bool.not_false, Nat.le_refl, reduceIte, kRef_0_eq, kRef_1_eq, kRef_2_eq, kRef_3_eq, kRef_4_eq, kRef_5_eq, kRef_6_eq, kRef_7_eq, kRef_8_eq, kRef_9_eq, kRef_10_eq, kRef_11_eq, kRef_12_eq, kRef_13_eq, kRef_14_eq, kRef_15_eq, kRef_16_eq, kRef_17_eq, kRef_18_eq, kRef_19_eq, kRef_20_eq, kRef_21_eq, kRef_22_eq, kRef_23_eq, kRef_24_eq, kRef_25_eq, kRef_26_eq, kRef_27_eq, kRef_28_eq, kRef_29_eq, kRef_30_eq, kRef_31_eq, kRef_32_eq, kRef_33_eq, kRef_34_eq, kRef_35_eq, kRef_36_eq, kRef_37_eq, kRef_38_eq, kRef_39_eq, kRef_40_eq, kRef_41_eq, kRef_42_eq, kRef_43_eq, kRef_44_eq, kRef_45_eq, kRef_46_eq, kRef_47_eq, kRef_48_eq, kRef_49_eq, kRef_50_eq, kRef_51_eq, kRef_52_eq, kRef_53_eq, kRef_54_eq, kRef_55_eq, kRef_56_eq, kRef_57_eq, kRef_58_eq, kRef_ret, kRef_nrm, -kRef_9_eq, hlen, hl1, d1, d2, p2, p3, d3]
    rfl
  · rw [if_neg hC] at hdl
    have hM9 : M ≤ 9 := by
      rcases Nat.lt_or_ge M 10 with h | h
      · omega
      · obtain ⟨c, hc9, hc1⟩ := mg 9 (by omega)
        exact absurd ⟨by omega, c, hc9, by omega⟩ hC
    have d10 : decide ((M : Int) = 10) = false := by rw [decide_eq_false_iff_not]; omega
    -- the first test
    have t1 : ∀ (v4 v5 v6 v8 v9 v24 v43 v47 v60 v63 : AV), kx (CL mx) (rl (CL mx) f).run (rl (CL mx) f).lp (kRef_12 (CL mx)) ⟨kRef_T d (.bool true) v4 v5 v6 (.int 9223372036854775807 (M : Int)) v8 v9 v24 v43 v47 v60 v63, h⟩ = some (.nrm, ⟨kRef_T d (.bool true) v4 v5 v6 (.int 9223372036854775807 (M : Int)) v8 v9 v24 (.bool false) v47 v60 v63, h⟩) := by
      intro v4 v5 v6 v8 v9 v24 v43 v47 v60 v63
      rcases Nat.lt_or_ge M 9 with h9 | h9
      · have d1 : decide ((9 : Int) ≤ (M : Int)) = false := by rw [decide_eq_false_iff_not]; omega
        simp only [guardC_b, guardC_u, beqB_tt, beqB_tf, beqB_ft, beqB_ff, min_eq, max_eq, vhO_kVH, ckN_eq, ckE_eq, List.length_set, ckX_same, bldS_int2, lt_agg, lt_tup, lt_int, lt_bool, lt_str, lt_nils, lt_sle, lt_nil, lt_slp, lt_ptp, kNrm_st, obindS, obindN, kThen_nrm, kThen_ret, kThen_exit, kOut_nrm, kOut_ret, kOut_exit, kIf_b, bqT, bqF, moveA_eq, pickA_eq, boxA_eq, newA_eq, cmp_eq, arith_eq, remA_eq, quoA_eq, notA_eq, negA_eq, cvI_eq, moveP_o, moveP_p, blkC_cells, load1_o, load1_p, loadG_o, loadG_p, store1_o, storeG_o, lenS_nils, lenS_sle, lenS_p, lenS_o, lenT_eq, idxS_p, idxS_o, idxT_eq, idxA_o, idxV1_eq, fld1_eq, fldG_eq, extA_eq, nilCk_o, nilCk_p, strAdd_eq, strCmp_eq, withX_some, withX_none, iaddE, isubE, imulE, iltE, igtE, ileE, igeE, ineE, ibeqE, hget_top, hget_zero, hget_succ, set_top, plains_nil, plains_cons, plain_int, plain_bool, plain_str, plain_nils, plain_slp, plain_sle, plain_nil, plain_pto, plain_ptp, plain_slo, nb_agg, nb_int, nb_bool, nb_str, nb_slp, nb_nils, nb_sle, nb_slo, cells_agg, cells_int, cells_bool, cells_str, List.length_cons, List.length_nil, List.length_append, List.take_succ_cons, List.take_zero, List.drop_succ_cons, List.drop_zero, List.cons_append, List.nil_append, List.append_nil, List.drop_nil, List.take_nil, List.getElem?_cons_zero, List.getElem?_cons_succ, List.set_cons_zero, List.set_cons_succ, Nat.reduceAdd, Nat.reduceMul, Nat.reduceSub, Nat.reduceLeDiff, Nat.reduceEqDiff, Nat.reduceLT, Nat.zero_add, Nat.add_zero, decide_true, decide_false, Bool.and_true, Bool.true_and, Bool.and_false, Bool.false_and, Bool.not_true, Bool.not_false, Nat.le_refl, reduceIte, kRef_0_eq, kRef_1_eq, kRef_2_eq, kRef_3_eq, kRef_4_eq, kRef_5_eq, kRef_6_eq, kRef_7_eq, kRef_8_eq, kRef_9_eq, kRef_10_eq, kRef_11_eq, kRef_12_eq, kRef_13_eq, kRef_14_eq, kRef_15_eq, kRef_16_eq, kRef_17_eq, kRef_18_eq, kRef_19_eq, kRef_20_eq, kRef_21_eq, kRef_22_eq, kRef_23_eq, kRef_24_eq, kRef_25_eq, kRef_26_eq, kRef_27_eq, kRef_28_eq, kRef_29_eq, kRef_30_eq, kRef_31_eq, kRef_32_eq, kRef_33_eq, kRef_34_eq, kRef_35_eq, kRef_36_eq, kRef_37_eq, kRef_38_eq, kRef_39_eq, kRef_40_eq, kRef_41_eq, kRef_42_eq, kRef_43_eq, kRef_44_eq, kRef_45_eq, kRef_46_eq, kRef_47_eq, kRef_48_eq, kRef_49_eq, kRef_50_eq, kRef_51_eq, kRef_52_eq, kRef_53_eq, kRef_54_eq, kRef_55_eq, kRef_56_eq, kRef_57_eq, kRef_58_eq, kRef_ret, kRef_nrm, hlen, d1, d10]
      · have d1 : decide ((9 : Int) ≤ (M : Int)) = true := by rw [decide_eq_true_iff]; omega
        rcases Nat.lt_or_ge 9 bs.length with h1 | h1
        · obtain ⟨x, hx⟩ : ∃ x, bs[9]? = some x := ⟨_, List.getElem?_eq_getElem h1⟩
          obtain ⟨p, p1, p2, p3⟩ := hd.idx (i := 9) (c := .int 255 (x : Int)) (by unfold bytesA; rw [List.getElem?_map, hx]; rfl)
          rw [show ((9 : Nat) : Int) = 9 from rfl] at p2
          have d2 : decide ((9 : Int) < (bs.length : Int)) = true := by rw [decide_eq_true_iff]; omega
          have d3 : decide ((1 : Int) < (x : Int)) = false := by
            rw [decide_eq_false_iff_not]
            intro e
            exact hC ⟨h9, x, hx, by omega⟩
          simp only [guardC_b, guardC_u, beqB_tt, beqB_tf, beqB_ft, beqB_ff, min_eq, max_eq, vhO_kVH, ckN_eq, ckE_eq, List.length_set, ckX_same, bldS_int2, lt_agg, lt_tup, lt_int, lt_bool, lt_str, lt_nils, lt_sle, lt_nil, lt_slp, lt_ptp, kNrm_st, obindS, obindN, kThen_nrm, kThen_ret, kThen_exit, kOut_nrm, kOut_ret, kOut_exit, kIf_b, bqT, bqF, moveA_eq, pickA_eq, boxA_eq, newA_eq, cmp_eq, arith_eq, remA_eq, quoA_eq, notA_eq, negA_eq, cvI_eq, moveP_o, moveP_p, blkC_cells, load1_o, load1_p, loadG_o, loadG_p, store1_o, storeG_o, lenS_nils, lenS_sle, lenS_p, lenS_o, lenT_eq, idxS_p, idxS_o, idxT_eq, idxA_o, idxV1_eq, fld1_eq, fldG_eq, extA_eq, nilCk_o, nilCk_p, strAdd_eq, strCmp_eq, withX_some, withX_none, iaddE, isubE, imulE, iltE, igtE, ileE, igeE, ineE, ibeqE, hget_top, hget_zero, hget_succ, set_top, plains_nil, plains_cons, plain_int, plain_bool, plain_str, plain_nils, plain_slp, plain_sle, plain_nil, plain_pto, plain_ptp, plain_slo, nb_agg, nb_int, nb_bool, nb_str, nb_slp, nb_nils, nb_sle, nb_slo, cells_agg, cells_int, cells_bool, cells_str, List.length_cons, List.length_nil, List.length_append, List.take_succ_cons, List.take_zero, List.drop_succ_cons, List.drop_zero, List.cons_append, List.nil_append, List.append_nil, List.drop_nil, List.take_nil, List.getElem?_cons_zero, List.getElem?_cons_succ, List.set_cons_zero, List.set_cons_succ, Nat.reduceAdd, Nat.reduceMul, Nat.reduceSub, Nat.reduceLeDiff, Nat.reduceEqDiff, Nat.reduceLT, Nat.zero_add, Nat.add_zero, decide_true, decide_false, Bool.and_true, Bool.true_and, Bool.and_false, Bool.false_and, Bool.not_true, Bool.not_false, Nat.le_refl, reduceIte, kRef_0_eq, kRef_1_eq, kRef_2_eq, kRef_3_eq, kRef_4_eq, kRef_5_eq, kRef_6_eq, kRef_7_eq, kRef_8_eq, kRef_9_eq, kRef_10_eq, kRef_11_eq, kRef_12_eq, kRef_13_eq, kRef_14_eq, kRef_15_eq, kRef_16_eq, kRef_17_eq, kRef_18_eq, kRef_19_eq, kRef_20_eq, kRef_21_eq, kRef_22_eq, kRef_23_eq, kRef_24_eq, kRef_25_eq, kRef_26_eq, kRef_27_eq, kRef_28_eq, kRef_29_eq, kRef_30_eq, kRef_31_eq, kRef_32_eq, kRef_33_eq, kRef_34_eq, kRef_35_eq, kRef_36_eq, kRef_37_eq, kRef_38_eq, kRef_39_eq, kRef_40_eq, kRef_41_eq, kRef_42_eq, kRef_43_eq, kRef_44_eq, kRef_45_eq, kRef_46_eq, kRef_47_eq, kRef_48_eq, kRef_49_eq, kRef_50_eq, kRef_51_eq, kRef_52_eq, kRef_53_eq, kRef_54_eq, kRef_55_eq, kRef_56_eq, kRef_57_eq, kRef_58_eq, kRef_ret, kRef_nrm, hlen, d1, d2, p2, p3, d3, d10]
        · have d2 : decide ((9 : Int) < (bs.length : Int)) = false := by rw [decide_eq_false_iff_not]; omega
          simp only [guardC_b, guardC_u, beqB_tt, beqB_tf, beqB_ft, beqB_ff, min_eq, max_eq, vhO_kVH, ckN_eq, ckE_eq, List.length_set, ckX_same, bldS_int2, lt_agg, lt_tup, lt_int, lt_bool, lt_str, lt_nils, lt_sle, lt_nil, lt_slp, lt_ptp, kNrm_st, obindS, obindN, kThen_nrm, kThen_ret, kThen_exit, kOut_nrm, kOut_ret, kOut_exit, kIf_b, bqT, bqF, moveA_eq, pickA_eq, boxA_eq, newA_eq, cmp_eq, arith_eq, remA_eq, quoA_eq, notA_eq, negA_eq, cvI_eq, moveP_o, moveP_p, blkC_cells, load1_o, load1_p, loadG_o, loadG_p, store1_o, storeG_o, lenS_nils, lenS_sle, lenS_p, lenS_o, lenT_eq, idxS_p, idxS_o, idxT_eq, idxA_o, idxV1_eq, fld1_eq, fldG_eq, extA_eq, nilCk_o, nilCk_p, strAdd_eq, strCmp_eq, withX_some, withX_none, iaddE, isubE, imulE, iltE, igtE, ileE, igeE, ineE, ibeqE, hget_top, hget_zero, hget_succ, set_top, plains_nil, plains_cons, plain_int, plain_bool, plain_str, plain_nils, plain_slp, plain_sle, plain_nil, plain_pto, plain_ptp, plain_slo, nb_agg, nb_int, nb_bool, nb_str, nb_slp, nb_nils, nb_sle, nb_slo, cells_agg, cells_int, cells_bool, cells_str, List.length_cons, List.length_nil, List.length_append, List.take_succ_cons, List.take_zero, List.drop_succ_cons, List.drop_zero, List.cons_append, List.nil_append, List.append_nil, List.drop_nil, List.take_nil, List.getElem?_cons_zero, List.getElem?_cons_succ, List.set_cons_zero, List.set_cons_succ, Nat.reduceAdd, Nat.reduceMul, Nat.reduceSub, Nat.reduceLeDiff, Nat.reduceEqDiff, Nat.reduceLT, Nat.zero_add, Nat.add_zero, decide_true, decide_false, Bool.and_true, Bool.true_and, Bool.and_false, Bool.false_and, Bool.not_true, Bool.not_false, Nat.le_refl, reduceIte, kRef_0_eq, kRef_1_eq, kRef_2_eq, kRef_3_eq, kRef_4_eq, kRef_5_eq, kRef_6_eq, kRef_7_eq, kRef_8_eq, kRef_9_eq, kRef_10_eq, kRef_11_eq, kRef_12_eq, kRef_13_eq, kRef_14_eq, kRef_15_eq, kRef_16_eq, kRef_17_eq, kRef_18_eq, kRef_19_eq, kRef_20_eq, kRef_21_eq, kRef_22_eq, kRef_23_eq, kRef_24_eq, kRef_25_eq, kRef_26_eq, kRef_27_eq, kRef_28_eq, kRef_29_eq, kRef_30_eq, kRef_31_eq, kRef_32_eq, kRef_33_eq, kRef_34_eq, kRef_35_eq, kRef_36_eq, kRef_37_eq, kRef_38_eq, kRef_39_eq, kRef_40_eq, kRef_41_eq, kRef_42_eq, kRef_43_eq, kRef_44_eq, kRef_45_eq, kRef_46_eq, kRef_47_eq, kRef_48_eq, kRef_49_eq, kRef_50_eq, kRef_51_eq, kRef_52_eq, kRef_53_eq, kRef_54_eq, kRef_55_eq, kRef_56_eq, kRef_57_eq, kRef_58_eq, kRef_ret, kRef_nrm, hlen, d1, d2, d10]
    by_cases hE : M = bs.length
    · rw [if_pos hE] at hdl
      rw [hdl]
      have d4 : decide ((M : Int) = (bs.length : Int)) = true := by rw [decide_eq_true_iff]; omega
      simp only [guardC_b, guardC_u, beqB_tt, beqB_tf, beqB_ft, beqB_ff, min_eq, max_eq, vhO_kVH, ckN_eq, ckE_eq, List.length_set, ckX_same, bldS_int2, lt_agg, lt_tup, lt_int, lt_bool, lt_str, lt_nils, lt_sle, lt_nil, lt_slp, lt_ptp, kNrm_st, obindS, obindN, kThen_nrm, kThen_ret, kThen_exit, kOut_nrm, kOut_ret, kOut_exit, kIf_b, bqT, bqF, moveA_eq, pickA_eq, boxA_eq, newA_eq, cmp_eq, arith_eq, remA_eq, quoA_eq, notA_eq, negA_eq, cvI_eq, moveP_o, moveP_p, blkC_cells, load1_o, load1_p, loadG_o, loadG_p, store1_o, storeG_o, lenS_nils, lenS_sle, lenS_p, lenS_o, lenT_eq, idxS_p, idxS_o, idxT_eq, idxA_o, idxV1_eq, fld1_eq, fldG_eq, extA_eq, nilCk_o, nilCk_p, strAdd_eq, strCmp_eq, withX_some, withX_none, iaddE, isubE, imulE, iltE, igtE, ileE, igeE, ineE, ibeqE, hget_top, hget_zero, hget_succ, set_top, plains_nil, plains_cons, plain_int, plain_bool, plain_str, plain_nils, plain_slp, plain_sle, plain_nil, plain_pto, plain_ptp, plain_slo, nb_agg, nb_int, nb_bool, nb_str, nb_slp, nb_nils, nb_sle, nb_slo, cells_agg, cells_int, cells_bool, cells_str, List.length_cons, List.length_nil, List.length_append, List.take_succ_cons, List.take_zero, List.drop_succ_cons, List.drop_zero, List.cons_append, List.nil_append, List.append_nil, List.drop_nil, List.take_nil, List.getElem?_cons_zero, List.getElem?_cons_succ, List.set_cons_zero, List.set_cons_succ, Nat.reduceAdd, Nat.reduceMul, Nat.reduceSub, Nat.reduceLeDiff, Nat.reduceEqDiff, Nat.reduceLT, Nat.zero_add, Nat.add_zero, decide_true, decide_false, Bool.and_true, Bool.true_and, Bool.and_false, Bool.false_and, Bool.not_true, Bool.not_false, Nat.le_refl, reduceIte, kRef_0_eq, kRef_1_eq, kRef_2_eq, kRef_3_eq, kRef_4_eq, kRef_5_eq, kRef_6_eq, kRef_7_eq, kRef_8_eq, kRef_9_eq, kRef_10_eq, kRef_11_eq, kRef_12_eq, kRef_13_eq, kRef_14_eq, kRef_15_eq, kRef_16_eq, kRef_17_eq, kRef_18_eq, kRef_19_eq, kRef_20_eq, kRef_21_eq, kRef_22_eq, kRef_23_eq, kRef_24_eq, kRef_25_eq, kRef_26_eq, kRef_27_eq, kRef_28_eq, kRef_29_eq, kRef_30_eq, kRef_31_eq, kRef_32_eq, kRef_33_eq, kRef_34_eq, kRef_35_eq, kRef_36_eq, kRef_37_eq, kRef_38_eq, kRef_39_eq, kRef_40_eq, kRef_41_eq, kRef_42_eq, kRef_43_eq, kRef_44_eq, kRef_45_eq, kRef_46_eq, kRef_47_eq, kRef_48_eq, kRef_49_eq, kRef_50_eq, kRef_51_eq, kRef_52_eq, kRef_53_eq, kRef_54_eq, kRef_55_eq, kRef_56_eq, kRef_57_eq, kRef_58_eq, kRef_ret, kRef_nrm, -kRef_9_eq, -kRef_12_eq, hlen, hl1, t1, d4]
      rfl
    · rw [if_neg hE] at hdl
      rw [hdl]
      have hMl : M < bs.length := by omega
      have d4 : decide ((M : Int) = (bs.length : Int)) = false := by rw [decide_eq_false_iff_not]; omega
      obtain ⟨x, hx⟩ : ∃ x, bs[M]? = some x := ⟨_, List.getElem?_eq_getElem hMl⟩
      obtain ⟨p, p1, p2, p3⟩ := hd.idx (i := M) (c := .int 255 (x : Int)) (by unfold bytesA; rw [List.getElem?_map, hx]; rfl)
      have t2 : ∀ (v4 v5 v6 v8 v9 v24 v43 v47 v60 v63 : AV), kx (CL mx) (rl (CL mx) f).run (rl (CL mx) f).lp (kRef_26 (CL mx)) ⟨kRef_T d (.bool true) v4 v5 v6 (.int 9223372036854775807 (M : Int)) v8 v9 v24 v43 v47 v60 v63, h⟩ = some (.nrm, ⟨kRef_T d (.bool true) v4 v5 v6 (.int 9223372036854775807 (M : Int)) v8 v9 v24 v43 v47 (.bool false) v63, h⟩) := by
        intro v4 v5 v6 v8 v9 v24 v43 v47 v60 v63
        by_cases h0 : (0 : Int) < (M : Int)
        · by_cases hx0 : (x : Int) = 0
          · simp only [guardC_b, guardC_u, beqB_tt, beqB_tf, beqB_ft, beqB_ff, min_eq, max_eq, vhO_kVH, ckN_eq, ckE_eq, List.length_set, ckX_same, bldS_int2, lt_agg, lt_tup, lt_int, lt_bool, lt_str, lt_nils, lt_sle, lt_nil, lt_slp, lt_ptp, kNrm_st, obindS, obindN, kThen_nrm, kThen_ret, kThen_exit, kOut_nrm, kOut_ret, kOut_exit, kIf_b, bqT, bqF, moveA_eq, pickA_eq, boxA_eq, newA_eq, cmp_eq, arith_eq, remA_eq, quoA_eq, notA_eq, negA_eq, cvI_eq, moveP_o, moveP_p, blkC_cells, load1_o, load1_p, loadG_o, loadG_p, store1_o, storeG_o, lenS_nils, lenS_sle, lenS_p, lenS_o, lenT_eq, idxS_p, idxS_o, idxT_eq, idxA_o, idxV1_eq, fld1_eq, fldG_eq, extA_eq, nilCk_o, nilCk_p, strAdd_eq, strCmp_eq, withX_some, withX_none, iaddE, isubE, imulE, iltE, igtE, ileE, igeE, ineE, ibeqE, hget_top, hget_zero, hget_succ, set_top, plains_nil, plains_cons, plain_int, plain_bool, plain_str, plain_nils, plain_slp, plain_sle, plain_nil, plain_pto, plain_ptp, plain_slo, nb_agg, nb_int, nb_bool, nb_str, nb_slp, nb_nils, nb_sle, nb_slo, cells_agg, cells_int, cells_bool, cells_str, List.length_cons, List.length_nil, List.length_append, List.take_succ_cons, List.take_zero, List.drop_succ_cons, List.drop_zero, List.cons_append, List.nil_append, List.append_nil, List.drop_nil, List.take_nil, List.getElem?_cons_zero, List.getElem?_cons_succ, List.set_cons_zero, List.set_cons_succ, Nat.reduceAdd, Nat.reduceMul, Nat.reduceSub, Nat.reduceLeDiff, Nat.reduceEqDiff, Nat.reduceLT, Nat.zero_add, Nat.add_zero, decide_true, decide_false, Bool.and_true, Bool.true_and, Bool.and_false, Bool.false_and, Bool.not_true, Bool.not_false, Nat.le_refl, reduceIte, kRef_0_eq, kRef_1_eq, kRef_2_eq, kRef_3_eq, kRef_4_eq, kRef_5_eq, kRef_6_eq, kRef_7_eq, kRef_8_eq, kRef_9_eq, kRef_10_eq, kRef_11_eq, kRef_12_eq, kRef_13_eq, kRef_14_eq, kRef_15_eq, kRef_16_eq, kRef_17_eq, kRef_18_eq, kRef_19_eq, kRef_20_eq, kRef_21_eq, kRef_22_eq, kRef_23_eq, kRef_24_eq, kRef_25_eq, kRef_26_eq, kRef_27_eq, kRef_28_eq, kRef_29_eq, kRef_30_eq, kRef_31_eq, kRef_32_eq, kRef_33_eq, kRef_34_eq, kRef_35_eq, kRef_36_eq, kRef_37_eq, kRef_38_eq, kRef_39_eq, kRef_40_eq, kRef_41_eq, kRef_42_eq, kRef_43_eq, kRef_44_eq, kRef_45_eq, kRef_46_eq, kRef_47_eq, kRef_48_eq, kRef_49_eq, kRef_50_eq, kRef_51_eq, kRef_52_eq, kRef_53_eq, kRef_54_eq, kRef_55_eq, kRef_56_eq, kRef_57_eq, kRef_58_eq, kRef_ret, kRef_nrm, decide_eq_true h0, p2, p3, decide_eq_true hx0]
          · simp only [guardC_b, guardC_u, beqB_tt, beqB_tf, beqB_ft, beqB_ff, min_eq, max_eq, vhO_kVH, ckN_eq, ckE_eq, List.length_set, ckX_same, bldS_int2, lt_agg, lt_tup, lt_int, lt_bool, lt_str, lt_nils, lt_sle, lt_nil, lt_slp, lt_ptp, kNrm_st, obindS, obindN, kThen_nrm, kThen_ret, kThen_exit, kOut_nrm, kOut_ret, kOut_exit, kIf_b, bqT, bqF, moveA_eq, pickA_eq, boxA_eq, newA_eq, cmp_eq, arith_eq, remA_eq, quoA_eq, notA_eq, negA_eq, cvI_eq, moveP_o, moveP_p, blkC_cells, load1_o, load1_p, loadG_o, loadG_p, store1_o, storeG_o, lenS_nils, lenS_sle, lenS_p, lenS_o, lenT_eq, idxS_p, idxS_o, idxT_eq, idxA_o, idxV1_eq, fld1_eq, fldG_eq, extA_eq, nilCk_o, nilCk_p, strAdd_eq, strCmp_eq, withX_some, withX_none, iaddE, isubE, imulE, iltE, igtE, ileE, igeE, ineE, ibeqE, hget_top, hget_zero, hget_succ, set_top, plains_nil, plains_cons, plain_int, plain_bool, plain_str, plain_nils, plain_slp, plain_sle, plain_nil, plain_pto, plain_ptp, plain_slo, nb_agg, nb_int, nb_bool, nb_str, nb_slp, nb_nils, nb_sle, nb_slo, cells_agg, cells_int, cells_bool, cells_str, List.length_cons, List.length_nil, List.length_append, List.take_succ_cons, List.take_zero, List.drop_succ_cons, List.drop_zero, List.cons_append, List.nil_append, List.append_nil, List.drop_nil, List.take_nil, List.getElem?_cons_zero, List.getElem?_cons_succ, List.set_cons_zero, List.set_cons_succ, Nat.reduceAdd, Nat.reduceMul, Nat.reduceSub, Nat.reduceLeDiff, Nat.reduceEqDiff, Nat.reduceLT, Nat.zero_add, Nat.add_zero, decide_true, decide_false, Bool.and_true, Bool.true_and, Bool.and_false, Bool.false_and, Bool.not_true, Bool.not_false, Nat.le_refl, reduceIte, kRef_0_eq, kRef_1_eq, kRef_2_eq, kRef_3_eq, kRef_4_eq, kRef_5_eq, kRef_6_eq, kRef_7_eq, kRef_8_eq, kRef_9_eq, kRef_10_eq, kRef_11_eq, kRef_12_eq, kRef_13_eq, kRef_14_eq, kRef_15_eq, kRef_16_eq, kRef_17_eq, kRef_18_eq, kRef_19_eq, kRef_20_eq, kRef_21_eq, kRef_22_eq, kRef_23_eq, kRef_24_eq, kRef_25_eq, kRef_26_eq, kRef_27_eq, kRef_28_eq, kRef_29_eq, kRef_30_eq, kRef_31_eq, kRef_32_eq, kRef_33_eq, kRef_34_eq, kRef_35_eq, kRef_36_eq, kRef_37_eq, kRef_38_eq, kRef_39_eq, kRef_40_eq, kRef_41_eq, kRef_42_eq, kRef_43_eq, kRef_44_eq, kRef_45_eq, kRef_46_eq, kRef_47_eq, kRef_48_eq, kRef_49_eq, kRef_50_eq, kRef_51_eq, kRef_52_eq, kRef_53_eq, kRef_54_eq, kRef_55_eq, kRef_56_eq, kRef_57_eq, kRef_58_eq, kRef_ret, kRef_nrm, decide_eq_true h0, p2, p3, decide_eq_false hx0]
        · simp only [guardC_b, guardC_u, beqB_tt, beqB_tf, beqB_ft, beqB_ff, min_eq, max_eq, vhO_kVH, ckN_eq, ckE_eq, List.length_set, ckX_same, bldS_int2, lt_agg, lt_tup, lt_int, lt_bool, lt_str, lt_nils, lt_sle, lt_nil, lt_slp, lt_ptp, kNrm_st, obindS, obindN, kThen_nrm, kThen_ret, kThen_exit, kOut_nrm, kOut_ret, kOut_exit, kIf_b, bqT, bqF, moveA_eq, pickA_eq, boxA_eq, newA_eq, cmp_eq, arith_eq, remA_eq, quoA_eq, notA_eq, negA_eq, cvI_eq, moveP_o, moveP_p, blkC_cells, load1_o, load1_p, loadG_o, loadG_p, store1_o, storeG_o, lenS_nils, lenS_sle, lenS_p, lenS_o, lenT_eq, idxS_p, idxS_o, idxT_eq, idxA_o, idxV1_eq, fld1_eq, fldG_eq, extA_eq, nilCk_o, nilCk_p, strAdd_eq, strCmp_eq, withX_some, withX_none, iaddE, isubE, imulE, iltE, igtE, ileE, igeE, ineE, ibeqE, hget_top, hget_zero, hget_succ, set_top, plains_nil, plains_cons, plain_int, plain_bool, plain_str, plain_nils, plain_slp, plain_sle, plain_nil, plain_pto, plain_ptp, plain_slo, nb_agg, nb_int, nb_bool, nb_str, nb_slp, nb_nils, nb_sle, nb_slo, cells_agg, cells_int, cells_bool, cells_str, List.length_cons, List.length_nil, List.length_append, List.take_succ_cons, List.take_zero, List.drop_succ_cons, List.drop_zero, List.cons_append, List.nil_append, List.append_nil, List.drop_nil, List.take_nil, List.getElem?_cons_zero, List.getElem?_cons_succ, List.set_cons_zero, List.set_cons_succ, Nat.reduceAdd, Nat.reduceMul, Nat.reduceSub, Nat.reduceLeDiff, Nat.reduceEqDiff, Nat.reduceLT, Nat.zero_add, Nat.add_zero, decide_true, decide_false, Bool.and_true, Bool.true_and, Bool.and_false, Bool.false_and, Bool.not_true, Bool.not_false, Nat.le_refl, reduceIte, kRef_0_eq, kRef_1_eq, kRef_2_eq, kRef_3_eq, kRef_4_eq, kRef_5_eq, kRef_6_eq, kRef_7_eq, kRef_8_eq, kRef_9_eq, kRef_10_eq, kRef_11_eq, kRef_12_eq, kRef_13_eq, kRef_14_eq, kRef_15_eq, kRef_16_eq, kRef_17_eq, kRef_18_eq, kRef_19_eq, kRef_20_eq, kRef_21_eq, kRef_22_eq, kRef_23_eq, kRef_24_eq, kRef_25_eq, kRef_26_eq, kRef_27_eq, kRef_28_eq, kRef_29_eq, kRef_30_eq, kRef_31_eq, kRef_32_eq, kRef_33_eq, kRef_34_eq, kRef_35_eq, kRef_36_eq, kRef_37_eq, kRef_38_eq, kRef_39_eq, kRef_40_eq, kRef_41_eq, kRef_42_eq, kRef_43_eq, kRef_44_eq, kRef_45_eq, kRef_46_eq, kRef_47_eq, kRef_48_eq, kRef_49_eq, kRef_50_eq, kRef_51_eq, kRef_52_eq, kRef_53_eq, kRef_54_eq, kRef_55_eq, kRef_56_eq, kRef_57_eq, kRef_58_eq, kRef_ret, kRef_nrm, decide_eq_false h0]
      have hll : (bs.take (M + 1)).length = M + 1 := by rw [List.length_take]; omega
      have hv : lv (bs.take (M + 1)) ≤ 18446744073709551615 := by
        have htk : bs.take (M + 1) = bs.take M ++ [x] := by rw [List.take_add_one, hx]; rfl
        rw [htk, lv_snoc]
        have h1 := lv_lt (bs.take M)
        rw [List.length_take, Nat.min_eq_left (by omega)] at h1 ⊢
        rcases Nat.lt_or_ge M 9 with h9 | h9
        · have hp : 128 ^ M ≤ 128 ^ 8 := Nat.pow_le_pow_right (by omega) (by omega)
          have : 128 ^ M * (x % 128) ≤ 128 ^ 8 * 127 := Nat.mul_le_mul hp (by omega)
          have e8 : 128 ^ 8 = 72057594037927936 := by decide
          omega
        · obtain rfl : M = 9 := by omega
          have hx1 : x ≤ 1 := by
            rcases Nat.lt_or_ge 1 x with h | h
            · exact absurd ⟨by omega, x, hx, h⟩ hC
            · exact h
          have e9 : 128 ^ 9 = 9223372036854775808 := by decide
          rw [e9] at h1 ⊢
          have : x % 128 ≤ 1 := by omega
          omega
      have hl2 := ref_loop2 mx hd (bs.take (M + 1)) (by rw [hll]) hc hv (.bool true) (.int 18446744073709551615 0) (.int 9223372036854775807 0) (.int 9223372036854775807 0) (.int 9223372036854775807 (M : Int)) (.bool false) (.bool false) (.bool false) (.bool false) (M + 1) f .bot (by omega) (by omega) (by omega)
      rw [show lv ((bs.take (M + 1)).drop (M + 1)) = 0 by rw [List.drop_eq_nil_iff.2 (by omega)]; rfl, show ((M + 1 : Nat) : Int) - 1 = (M : Int) by omega, show ((0 : Nat) : Int) = 0 from rfl] at hl2
      have w : wrapA 9223372036854775807 ((M : Int) + 1) = ((M + 1 : Nat) : Int) := by rw [wrapA_i64 (by omega) (by omega)]; push_cast; rfl
      simp only [guardC_b, guardC_u, beqB_tt, beqB_tf, beqB_ft, beqB_ff, min_eq, max_eq, vhO_kVH, ckN_eq, ckE_eq, List.length_set, ckX_same, bldS_int2, lt_agg, lt_tup, lt_int, lt_bool, lt_str, lt_nils, lt_sle, lt_nil, lt_slp, lt_ptp, kNrm_st, obindS, obindN, kThen_nrm, kThen_ret, kThen_exit, kOut_nrm, kOut_ret, kOut_exit, kIf_b, bqT, bqF, moveA_eq, pickA_eq, boxA_eq, newA_eq, cmp_eq, arith_eq, remA_eq, quoA_eq, notA_eq, negA_eq, cvI_eq, moveP_o, moveP_p, blkC_cells, load1_o, load1_p, loadG_o, loadG_p, store1_o, storeG_o, lenS_nils, lenS_sle, lenS_p, lenS_o, lenT_eq, idxS_p, idxS_o, idxT_eq, idxA_o, idxV1_eq, fld1_eq, fldG_eq, extA_eq, nilCk_o, nilCk_p, strAdd_eq, strCmp_eq, withX_some, withX_none, iaddE, isubE, imulE, iltE, igtE, ileE, igeE, ineE, ibeqE, hget_top, hget_zero, hget_succ, set_top, plains_nil, plains_cons, plain_int, plain_bool, plain_str, plain_nils, plain_slp, plain_sle, plain_nil, plain_pto, plain_ptp, plain_slo, nb_agg, nb_int, nb_bool, nb_str, nb_slp, nb_nils, nb_sle, nb_slo, cells_agg, cells_int, cells_bool, cells_str, List.length_cons, List.length_nil, List.length_append, List.take_succ_cons, List.take_zero, List.drop_succ_cons, List.drop_zero, List.cons_append, List.nil_append, List.append_nil, List.drop_nil, List.take_nil, List.getElem?_cons_zero, List.getElem?_cons_succ, List.set_cons_zero, List.set_cons_succ, Nat.reduceAdd, Nat.reduceMul, Nat.reduceSub, Nat.reduceLeDiff, Nat.reduceEqDiff, Nat.reduceLT, Nat.zero_add, Nat.add_zero, decide_true, decide_false, Bool.and_true, Bool.true_and, Bool.and_false, Bool.false_and, Bool.not_true, Bool.not_false, Nat.le_refl, reduceIte, kRef_0_eq, kRef_1_eq, kRef_2_eq, kRef_3_eq, kRef_4_eq, kRef_5_eq, kRef_6_eq, kRef_7_eq, kRef_8_eq, kRef_9_eq, kRef_10_eq, kRef_11_eq, kRef_12_eq, kRef_13_eq, kRef_14_eq, kRef_15_eq, kRef_16_eq, kRef_17_eq, kRef_18_eq, kRef_19_eq, kRef_20_eq, kRef_21_eq, kRef_22_eq, kRef_23_eq, kRef_24_eq, kRef_25_eq, kRef_26_eq, kRef_27_eq, kRef_28_eq, kRef_29_eq, kRef_30_eq, kRef_31_eq, kRef_32_eq, kRef_33_eq, kRef_34_eq, kRef_35_eq, kRef_36_eq, kRef_37_eq, kRef_38_eq, kRef_39_eq, kRef_40_eq, kRef_41_eq, kRef_42_eq, kRef_43_eq, kRef_44_eq, kRef_45_eq, kRef_46_eq, kRef_47_eq, kRef_48_eq, kRef_49_eq, kRef_50_eq, kRef_51_eq, kRef_52_eq, kRef_53_eq, kRef_54_eq, kRef_55_eq, kRef_56_eq, kRef_57_eq, kRef_58_eq, kRef_ret, kRef_nrm, -kRef_9_eq, -kRef_12_eq, -kRef_26_eq, -kRef_44_eq, hlen, hl1, t1, d4, t2, hl2, w]
      rfl
end Go.Proofs.YtgjccdampinbgaaGreatDoor
