/- The law ProtoPacks: its run. The function's equations are printed by a program. -/
import Derived.Test.YtgjccdampinbgaaGreatDoorP5
namespace Go.Proofs.YtgjccdampinbgaaGreatDoor
set_option linter.unusedSimpArgs false
set_option linter.unusedVariables false
set_option linter.unnecessarySimpa false
noncomputable section
/- guipure/guipurelaw28.ProtoPacks -/
def kLaw_T (v0 v1 v2 v6 v7 v8 v9 v10 v11 v12 v13 v14 v15 v17 v25 v40 v42 v43 v44 v54 v64 v74 v84 v108 : AV) : Tm := (.nd 15 (.nd 9 (.nd 6 (.nd 1 (.lf 0 v0) (.nd 2 (.lf 1 v1) (.lf 2 v2))) (.nd 7 (.lf 6 v6) (.nd 8 (.lf 7 v7) (.lf 8 v8)))) (.nd 12 (.nd 10 (.lf 9 v9) (.nd 11 (.lf 10 v10) (.lf 11 v11))) (.nd 13 (.lf 12 v12) (.nd 14 (.lf 13 v13) (.lf 14 v14))))) (.nd 44 (.nd 40 (.nd 17 (.lf 15 v15) (.nd 25 (.lf 17 v17) (.lf 25 v25))) (.nd 42 (.lf 40 v40) (.nd 43 (.lf 42 v42) (.lf 43 v43)))) (.nd 74 (.nd 54 (.lf 44 v44) (.nd 64 (.lf 54 v54) (.lf 64 v64))) (.nd 84 (.lf 74 v74) (.nd 108 (.lf 84 v84) (.lf 108 v108))))))
section
variable (C : Cx) (run : Run) (lp : Lp) (s : St) (h : AH) (v0 v1 v2 v6 v7 v8 v9 v10 v11 v12 v13 v14 v15 v17 v25 v40 v42 v43 v44 v54 v64 v74 v84 v108 : AV)
def kLaw_0 (C : Cx) : K := .reg [.mk (o1 moveA (.cst (.bool false)))] [(6, 0)]
theorem kLaw_0_eq : kx C run lp (kLaw_0 C) ⟨kLaw_T v0 v1 v2 v6 v7 v8 v9 v10 v11 v12 v13 v14 v15 v17 v25 v40 v42 v43 v44 v54 v64 v74 v84 v108, h⟩ = kNrm (moveA (.bool false) h (fun a0 h => some (.st (kLaw_T v0 v1 v2 a0 v7 v8 v9 v10 v11 v12 v13 v14 v15 v17 v25 v40 v42 v43 v44 v54 v64 v74 v84 v108) h))) := (rfl)
def kLaw_1 (C : Cx) : K := .reg [.mk (oCallF 5 []), .mk (o1 notA (.st 0))] [(17, 0)]
theorem kLaw_1_eq : kx C run lp (kLaw_1 C) ⟨kLaw_T v0 v1 v2 v6 v7 v8 v9 v10 v11 v12 v13 v14 v15 v17 v25 v40 v42 v43 v44 v54 v64 v74 v84 v108, h⟩ = kNrm (withX (fun a0 h => notA a0 h (fun a1 h => some (.st (kLaw_T v0 v1 v2 v6 v7 v8 v9 v10 v11 v12 v13 v14 v15 a1 v25 v40 v42 v43 v44 v54 v64 v74 v84 v108) h))) (callA C run 5 [] h)) := (rfl)
def kLaw_2 (C : Cx) : K := .reg [.mk (o1 moveA (.cst (.bool false)))] [(6, 0)]
theorem kLaw_2_eq : kx C run lp (kLaw_2 C) ⟨kLaw_T v0 v1 v2 v6 v7 v8 v9 v10 v11 v12 v13 v14 v15 v17 v25 v40 v42 v43 v44 v54 v64 v74 v84 v108, h⟩ = kNrm (moveA (.bool false) h (fun a0 h => some (.st (kLaw_T v0 v1 v2 a0 v7 v8 v9 v10 v11 v12 v13 v14 v15 v17 v25 v40 v42 v43 v44 v54 v64 v74 v84 v108) h))) := (rfl)
def kLaw_3 (_ : Cx) : K := .ex .ret
theorem kLaw_3_eq : kx C run lp (kLaw_3 C) s = some (.ret, s) := (rfl)
def kLaw_4 (C : Cx) : K := .seq (kLaw_2 C) (kLaw_3 C)
theorem kLaw_4_eq : kx C run lp (kLaw_4 C) s = obind (kx C run lp (kLaw_2 C) s) (kThen (kx C run lp (kLaw_3 C))) := (rfl)
def kLaw_5 (_ : Cx) : K := .skip
theorem kLaw_5_eq : kx C run lp (kLaw_5 C) s = some (.nrm, s) := (rfl)
def kLaw_6 (C : Cx) : K := .cond (.tr 17) (kLaw_4 C) (kLaw_5 C)
theorem kLaw_6_eq : kx C run lp (kLaw_6 C) ⟨kLaw_T v0 v1 v2 v6 v7 v8 v9 v10 v11 v12 v13 v14 v15 v17 v25 v40 v42 v43 v44 v54 v64 v74 v84 v108, h⟩ = kIf v17 (kx C run lp (kLaw_4 C)) (kx C run lp (kLaw_5 C)) ⟨kLaw_T v0 v1 v2 v6 v7 v8 v9 v10 v11 v12 v13 v14 v15 v17 v25 v40 v42 v43 v44 v54 v64 v74 v84 v108, h⟩ := (rfl)
def kLaw_7 (C : Cx) : K := .seq (kLaw_1 C) (kLaw_6 C)
theorem kLaw_7_eq : kx C run lp (kLaw_7 C) s = obind (kx C run lp (kLaw_1 C) s) (kThen (kx C run lp (kLaw_6 C))) := (rfl)
def kLaw_8 (C : Cx) : K := .reg [.mk (o1 moveA (.tr 0)), .mk (o1 lenS (.st 0)), .mk (o2 (cmp igt) (.st 0) (.cst (.int 9223372036854775807 100))), .mk (o1 moveA (.st 0)), .mk (guardA (.st 0) false ((o1 moveA (.tr 1)))), .mk (guardA (.st 1) false ((o1 lenS (.st 0)))), .mk (guardA (.st 2) false ((o2 (cmp igt) (.st 0) (.cst (.int 9223372036854775807 200))))), .mk (o3 pickA (.st 3) (.cst (.bool true)) (.st 0))] [(25, 0)]
theorem kLaw_8_eq : kx C run lp (kLaw_8 C) ⟨kLaw_T v0 v1 v2 v6 v7 v8 v9 v10 v11 v12 v13 v14 v15 v17 v25 v40 v42 v43 v44 v54 v64 v74 v84 v108, h⟩ = kNrm (moveA v0 h (fun a0 h => lenS a0 h (fun a1 h => cmp igt a1 (.int 9223372036854775807 100) h (fun a2 h => moveA a2 h (fun a3 h => guardC a3 false (fun κ => moveA v1 h (κ)) h (fun a4 h => guardC a3 false (fun κ => lenS a4 h (κ)) h (fun a5 h => guardC a3 false (fun κ => cmp igt a5 (.int 9223372036854775807 200) h (κ)) h (fun a6 h => pickA a3 (.bool true) a6 h (fun a7 h => some (.st (kLaw_T v0 v1 v2 v6 v7 v8 v9 v10 v11 v12 v13 v14 v15 v17 a7 v40 v42 v43 v44 v54 v64 v74 v84 v108) h)))))))))) := (rfl)
def kLaw_9 (C : Cx) : K := .reg [.mk (o1 moveA (.cst (.bool true)))] [(6, 0)]
theorem kLaw_9_eq : kx C run lp (kLaw_9 C) ⟨kLaw_T v0 v1 v2 v6 v7 v8 v9 v10 v11 v12 v13 v14 v15 v17 v25 v40 v42 v43 v44 v54 v64 v74 v84 v108, h⟩ = kNrm (moveA (.bool true) h (fun a0 h => some (.st (kLaw_T v0 v1 v2 a0 v7 v8 v9 v10 v11 v12 v13 v14 v15 v17 v25 v40 v42 v43 v44 v54 v64 v74 v84 v108) h))) := (rfl)
def kLaw_10 (_ : Cx) : K := .ex .ret
theorem kLaw_10_eq : kx C run lp (kLaw_10 C) s = some (.ret, s) := (rfl)
def kLaw_11 (C : Cx) : K := .seq (kLaw_9 C) (kLaw_10 C)
theorem kLaw_11_eq : kx C run lp (kLaw_11 C) s = obind (kx C run lp (kLaw_9 C) s) (kThen (kx C run lp (kLaw_10 C))) := (rfl)
def kLaw_12 (_ : Cx) : K := .skip
theorem kLaw_12_eq : kx C run lp (kLaw_12 C) s = some (.nrm, s) := (rfl)
def kLaw_13 (C : Cx) : K := .cond (.tr 25) (kLaw_11 C) (kLaw_12 C)
theorem kLaw_13_eq : kx C run lp (kLaw_13 C) ⟨kLaw_T v0 v1 v2 v6 v7 v8 v9 v10 v11 v12 v13 v14 v15 v17 v25 v40 v42 v43 v44 v54 v64 v74 v84 v108, h⟩ = kIf v25 (kx C run lp (kLaw_11 C)) (kx C run lp (kLaw_12 C)) ⟨kLaw_T v0 v1 v2 v6 v7 v8 v9 v10 v11 v12 v13 v14 v15 v17 v25 v40 v42 v43 v44 v54 v64 v74 v84 v108, h⟩ := (rfl)
def kLaw_14 (C : Cx) : K := .seq (kLaw_8 C) (kLaw_13 C)
theorem kLaw_14_eq : kx C run lp (kLaw_14 C) s = obind (kx C run lp (kLaw_8 C) s) (kThen (kx C run lp (kLaw_13 C))) := (rfl)
def kLaw_15 (C : Cx) : K := .reg [.mk (o1 moveA (.tr 0)), .mk (oCallF 6 [(.cst (.int 9223372036854775807 1)), (.st 0)]), .mk (oCallF 7 [(.st 0)]), .mk (o1 moveA (.st 0)), .mk (o1 (extA 0) (.st 0)), .mk (o1 (extA 1) (.st 1)), .mk (o1 moveA (.st 1)), .mk (o1 moveA (.st 1))] [(8, 0), (7, 1)]
theorem kLaw_15_eq : kx C run lp (kLaw_15 C) ⟨kLaw_T v0 v1 v2 v6 v7 v8 v9 v10 v11 v12 v13 v14 v15 v17 v25 v40 v42 v43 v44 v54 v64 v74 v84 v108, h⟩ = kNrm (moveA v0 h (fun a0 h => withX (fun a1 h => withX (fun a2 h => moveA a2 h (fun a3 h => extA 0 a3 h (fun a4 h => extA 1 a3 h (fun a5 h => moveA a4 h (fun a6 h => moveA a5 h (fun a7 h => some (.st (kLaw_T v0 v1 v2 v6 a6 a7 v9 v10 v11 v12 v13 v14 v15 v17 v25 v40 v42 v43 v44 v54 v64 v74 v84 v108) h))))))) (callA C run 7 [a1] h)) (callA C run 6 [(.int 9223372036854775807 1), a0] h))) := (rfl)
def kLaw_16 (C : Cx) : K := .reg [.mk (o1 moveA (.tr 8)), .mk (o2 (cmp ine) (.st 0) (.cst (.int 9223372036854775807 0))), .mk (o1 moveA (.st 0)), .mk (guardA (.st 0) false ((o1 moveA (.tr 7)))), .mk (guardA (.st 1) false ((o1 lenS (.st 0)))), .mk (guardA (.st 2) false ((o1 moveA (.tr 0)))), .mk (guardA (.st 3) false ((o1 lenS (.st 0)))), .mk (guardA (.st 4) false ((o2 (cmp ine) (.st 2) (.st 0)))), .mk (o3 pickA (.st 5) (.cst (.bool true)) (.st 0))] [(40, 0)]
theorem kLaw_16_eq : kx C run lp (kLaw_16 C) ⟨kLaw_T v0 v1 v2 v6 v7 v8 v9 v10 v11 v12 v13 v14 v15 v17 v25 v40 v42 v43 v44 v54 v64 v74 v84 v108, h⟩ = kNrm (moveA v8 h (fun a0 h => cmp ine a0 (.int 9223372036854775807 0) h (fun a1 h => moveA a1 h (fun a2 h => guardC a2 false (fun κ => moveA v7 h (κ)) h (fun a3 h => guardC a2 false (fun κ => lenS a3 h (κ)) h (fun a4 h => guardC a2 false (fun κ => moveA v0 h (κ)) h (fun a5 h => guardC a2 false (fun κ => lenS a5 h (κ)) h (fun a6 h => guardC a2 false (fun κ => cmp ine a4 a6 h (κ)) h (fun a7 h => pickA a2 (.bool true) a7 h (fun a8 h => some (.st (kLaw_T v0 v1 v2 v6 v7 v8 v9 v10 v11 v12 v13 v14 v15 v17 v25 a8 v42 v43 v44 v54 v64 v74 v84 v108) h))))))))))) := (rfl)
def kLaw_17 (C : Cx) : K := .reg [.mk (o1 moveA (.cst (.bool false)))] [(6, 0)]
theorem kLaw_17_eq : kx C run lp (kLaw_17 C) ⟨kLaw_T v0 v1 v2 v6 v7 v8 v9 v10 v11 v12 v13 v14 v15 v17 v25 v40 v42 v43 v44 v54 v64 v74 v84 v108, h⟩ = kNrm (moveA (.bool false) h (fun a0 h => some (.st (kLaw_T v0 v1 v2 a0 v7 v8 v9 v10 v11 v12 v13 v14 v15 v17 v25 v40 v42 v43 v44 v54 v64 v74 v84 v108) h))) := (rfl)
def kLaw_18 (_ : Cx) : K := .ex .ret
theorem kLaw_18_eq : kx C run lp (kLaw_18 C) s = some (.ret, s) := (rfl)
def kLaw_19 (C : Cx) : K := .seq (kLaw_17 C) (kLaw_18 C)
theorem kLaw_19_eq : kx C run lp (kLaw_19 C) s = obind (kx C run lp (kLaw_17 C) s) (kThen (kx C run lp (kLaw_18 C))) := (rfl)
def kLaw_20 (_ : Cx) : K := .skip
theorem kLaw_20_eq : kx C run lp (kLaw_20 C) s = some (.nrm, s) := (rfl)
def kLaw_21 (C : Cx) : K := .cond (.tr 40) (kLaw_19 C) (kLaw_20 C)
theorem kLaw_21_eq : kx C run lp (kLaw_21 C) ⟨kLaw_T v0 v1 v2 v6 v7 v8 v9 v10 v11 v12 v13 v14 v15 v17 v25 v40 v42 v43 v44 v54 v64 v74 v84 v108, h⟩ = kIf v40 (kx C run lp (kLaw_19 C)) (kx C run lp (kLaw_20 C)) ⟨kLaw_T v0 v1 v2 v6 v7 v8 v9 v10 v11 v12 v13 v14 v15 v17 v25 v40 v42 v43 v44 v54 v64 v74 v84 v108, h⟩ := (rfl)
def kLaw_22 (C : Cx) : K := .seq (kLaw_16 C) (kLaw_21 C)
theorem kLaw_22_eq : kx C run lp (kLaw_22 C) s = obind (kx C run lp (kLaw_16 C) s) (kThen (kx C run lp (kLaw_21 C))) := (rfl)
def kLaw_23 (C : Cx) : K := .reg [.mk (o1 moveA (.tr 7)), .mk (o1 lenS (.st 0)), .mk (o1 moveA (.cst (.int 9223372036854775807 0)))] [(43, 0), (42, 1)]
theorem kLaw_23_eq : kx C run lp (kLaw_23 C) ⟨kLaw_T v0 v1 v2 v6 v7 v8 v9 v10 v11 v12 v13 v14 v15 v17 v25 v40 v42 v43 v44 v54 v64 v74 v84 v108, h⟩ = kNrm (moveA v7 h (fun a0 h => lenS a0 h (fun a1 h => moveA (.int 9223372036854775807 0) h (fun a2 h => some (.st (kLaw_T v0 v1 v2 v6 v7 v8 v9 v10 v11 v12 v13 v14 v15 v17 v25 v40 a1 a2 v44 v54 v64 v74 v84 v108) h))))) := (rfl)
def kLaw_24 (C : Cx) : K := .reg [.mk (o2 (cmp ilt) (.tr 43) (.tr 42))] [(44, 0)]
theorem kLaw_24_eq : kx C run lp (kLaw_24 C) ⟨kLaw_T v0 v1 v2 v6 v7 v8 v9 v10 v11 v12 v13 v14 v15 v17 v25 v40 v42 v43 v44 v54 v64 v74 v84 v108, h⟩ = kNrm (cmp ilt v43 v42 h (fun a0 h => some (.st (kLaw_T v0 v1 v2 v6 v7 v8 v9 v10 v11 v12 v13 v14 v15 v17 v25 v40 v42 v43 a0 v54 v64 v74 v84 v108) h))) := (rfl)
def kLaw_25 (_ : Cx) : K := .skip
theorem kLaw_25_eq : kx C run lp (kLaw_25 C) s = some (.nrm, s) := (rfl)
def kLaw_26 (_ : Cx) : K := .ex (.exit 0)
theorem kLaw_26_eq : kx C run lp (kLaw_26 C) s = some (.exit 0, s) := (rfl)
def kLaw_27 (C : Cx) : K := .cond (.tr 44) (kLaw_25 C) (kLaw_26 C)
theorem kLaw_27_eq : kx C run lp (kLaw_27 C) ⟨kLaw_T v0 v1 v2 v6 v7 v8 v9 v10 v11 v12 v13 v14 v15 v17 v25 v40 v42 v43 v44 v54 v64 v74 v84 v108, h⟩ = kIf v44 (kx C run lp (kLaw_25 C)) (kx C run lp (kLaw_26 C)) ⟨kLaw_T v0 v1 v2 v6 v7 v8 v9 v10 v11 v12 v13 v14 v15 v17 v25 v40 v42 v43 v44 v54 v64 v74 v84 v108, h⟩ := (rfl)
def kLaw_28 (C : Cx) : K := .reg [.mk (o1 moveA (.tr 43)), .mk (o1 moveA (.st 0))] [(9, 0)]
theorem kLaw_28_eq : kx C run lp (kLaw_28 C) ⟨kLaw_T v0 v1 v2 v6 v7 v8 v9 v10 v11 v12 v13 v14 v15 v17 v25 v40 v42 v43 v44 v54 v64 v74 v84 v108, h⟩ = kNrm (moveA v43 h (fun a0 h => moveA a0 h (fun a1 h => some (.st (kLaw_T v0 v1 v2 v6 v7 v8 a1 v10 v11 v12 v13 v14 v15 v17 v25 v40 v42 v43 v44 v54 v64 v74 v84 v108) h)))) := (rfl)
def kLaw_29 (C : Cx) : K := .draw [⟨.mk (o1 moveA (.tr 7)), [], false, false⟩, ⟨.mk (o1 moveA (.tr 9)), [], false, false⟩, ⟨.mk (o2 (idxS 1) (.st 1) (.st 0)), [], false, false⟩, ⟨.mk (o1 load1 (.st 0)), [], false, false⟩, ⟨.mk (o1 moveA (.tr 0)), [], false, false⟩, ⟨.mk (o1 moveA (.tr 9)), [], false, false⟩, ⟨.mk (o2 (idxS 1) (.st 1) (.st 0)), [], false, false⟩, ⟨.mk (o1 load1 (.st 0)), [], false, false⟩, ⟨.mk (o2 (cmp ine) (.st 4) (.st 0)), [], false, false⟩] [] [(54, 0)]
theorem kLaw_29_dr (r : Ex × St) (e : kNrm (obind (vhO (moveA v7 h (kVH))) (ckX h fun a0 => obind (vhO (moveA v9 h (kVH))) (ckX h fun a1 => obind (vhO (idxS 1 a0 a1 h (kVH))) (ckX h fun a2 => obind (vhO (load1 a2 h (kVH))) (ckX h fun a3 => obind (vhO (moveA v0 h (kVH))) (ckX h fun a4 => obind (vhO (moveA v9 h (kVH))) (ckX h fun a5 => obind (vhO (idxS 1 a4 a5 h (kVH))) (ckX h fun a6 => obind (vhO (load1 a6 h (kVH))) (ckX h fun a7 => obind (vhO (cmp ine a3 a7 h (kVH))) (ckX h fun a8 => some (.st (kLaw_T v0 v1 v2 v6 v7 v8 v9 v10 v11 v12 v13 v14 v15 v17 v25 v40 v42 v43 v44 a8 v64 v74 v84 v108) h))))))))))) = some r) : kx C run lp (kLaw_29 C) ⟨kLaw_T v0 v1 v2 v6 v7 v8 v9 v10 v11 v12 v13 v14 v15 v17 v25 v40 v42 v43 v44 v54 v64 v74 v84 v108, h⟩ = some r := kdraw_still (by rfl) (by rfl) e
def kLaw_30 (C : Cx) : K := .reg [.mk (o1 moveA (.cst (.bool false)))] [(6, 0)]
theorem kLaw_30_eq : kx C run lp (kLaw_30 C) ⟨kLaw_T v0 v1 v2 v6 v7 v8 v9 v10 v11 v12 v13 v14 v15 v17 v25 v40 v42 v43 v44 v54 v64 v74 v84 v108, h⟩ = kNrm (moveA (.bool false) h (fun a0 h => some (.st (kLaw_T v0 v1 v2 a0 v7 v8 v9 v10 v11 v12 v13 v14 v15 v17 v25 v40 v42 v43 v44 v54 v64 v74 v84 v108) h))) := (rfl)
def kLaw_31 (_ : Cx) : K := .ex .ret
theorem kLaw_31_eq : kx C run lp (kLaw_31 C) s = some (.ret, s) := (rfl)
def kLaw_32 (C : Cx) : K := .seq (kLaw_30 C) (kLaw_31 C)
theorem kLaw_32_eq : kx C run lp (kLaw_32 C) s = obind (kx C run lp (kLaw_30 C) s) (kThen (kx C run lp (kLaw_31 C))) := (rfl)
def kLaw_33 (_ : Cx) : K := .skip
theorem kLaw_33_eq : kx C run lp (kLaw_33 C) s = some (.nrm, s) := (rfl)
def kLaw_34 (C : Cx) : K := .cond (.tr 54) (kLaw_32 C) (kLaw_33 C)
theorem kLaw_34_eq : kx C run lp (kLaw_34 C) ⟨kLaw_T v0 v1 v2 v6 v7 v8 v9 v10 v11 v12 v13 v14 v15 v17 v25 v40 v42 v43 v44 v54 v64 v74 v84 v108, h⟩ = kIf v54 (kx C run lp (kLaw_32 C)) (kx C run lp (kLaw_33 C)) ⟨kLaw_T v0 v1 v2 v6 v7 v8 v9 v10 v11 v12 v13 v14 v15 v17 v25 v40 v42 v43 v44 v54 v64 v74 v84 v108, h⟩ := (rfl)
def kLaw_35 (C : Cx) : K := .seq (kLaw_29 C) (kLaw_34 C)
theorem kLaw_35_eq : kx C run lp (kLaw_35 C) s = obind (kx C run lp (kLaw_29 C) s) (kThen (kx C run lp (kLaw_34 C))) := (rfl)
def kLaw_36 (C : Cx) : K := .seq (kLaw_28 C) (kLaw_35 C)
theorem kLaw_36_eq : kx C run lp (kLaw_36 C) s = obind (kx C run lp (kLaw_28 C) s) (kThen (kx C run lp (kLaw_35 C))) := (rfl)
def kLaw_37 (C : Cx) : K := .block 1 (kLaw_36 C)
theorem kLaw_37_eq : kx C run lp (kLaw_37 C) s = obind (kx C run lp (kLaw_36 C) s) (kOut 1) := (rfl)
def kLaw_38 (C : Cx) : K := .reg [.mk (o2 (arith iadd) (.tr 43) (.cst (.int 9223372036854775807 1))), .mk (o1 moveA (.st 0))] [(43, 0)]
theorem kLaw_38_eq : kx C run lp (kLaw_38 C) ⟨kLaw_T v0 v1 v2 v6 v7 v8 v9 v10 v11 v12 v13 v14 v15 v17 v25 v40 v42 v43 v44 v54 v64 v74 v84 v108, h⟩ = kNrm (arith iadd v43 (.int 9223372036854775807 1) h (fun a0 h => moveA a0 h (fun a1 h => some (.st (kLaw_T v0 v1 v2 v6 v7 v8 v9 v10 v11 v12 v13 v14 v15 v17 v25 v40 v42 a1 v44 v54 v64 v74 v84 v108) h)))) := (rfl)
def kLaw_39 (C : Cx) : K := .seq (kLaw_37 C) (kLaw_38 C)
theorem kLaw_39_eq : kx C run lp (kLaw_39 C) s = obind (kx C run lp (kLaw_37 C) s) (kThen (kx C run lp (kLaw_38 C))) := (rfl)
def kLaw_40 (C : Cx) : K := .seq (kLaw_27 C) (kLaw_39 C)
theorem kLaw_40_eq : kx C run lp (kLaw_40 C) s = obind (kx C run lp (kLaw_27 C) s) (kThen (kx C run lp (kLaw_39 C))) := (rfl)
def kLaw_41 (C : Cx) : K := .seq (kLaw_24 C) (kLaw_40 C)
theorem kLaw_41_eq : kx C run lp (kLaw_41 C) s = obind (kx C run lp (kLaw_24 C) s) (kThen (kx C run lp (kLaw_40 C))) := (rfl)
def kLaw_42 (C : Cx) : K := .loop (kLaw_41 C)
theorem kLaw_42_eq : kx C run lp (kLaw_42 C) s = lp (kLaw_41 C) s := (rfl)
def kLaw_43 (C : Cx) : K := .block 0 (kLaw_42 C)
theorem kLaw_43_eq : kx C run lp (kLaw_43 C) s = obind (kx C run lp (kLaw_42 C) s) (kOut 0) := (rfl)
def kLaw_44 (C : Cx) : K := .seq (kLaw_23 C) (kLaw_43 C)
theorem kLaw_44_eq : kx C run lp (kLaw_44 C) s = obind (kx C run lp (kLaw_23 C) s) (kThen (kx C run lp (kLaw_43 C))) := (rfl)
def kLaw_45 (C : Cx) : K := .reg [.mk (o1 moveA (.tr 2)), .mk (o1 moveA (.tr 1)), .mk (oBuild (placeOf C [(0, 3), (1, 3), (2, 27), (3, 23)]) [.int 9223372036854775807 0, .int 9223372036854775807 0, .int 18446744073709551615 0, .nils] [(0, (.cst (.int 9223372036854775807 1))), (1, (.st 1)), (3, (.st 0))]), .mk (oCallF 7 [(.st 0)]), .mk (o1 moveA (.st 0)), .mk (o1 (extA 0) (.st 0)), .mk (o1 (extA 1) (.st 1)), .mk (o1 moveA (.st 1)), .mk (o1 moveA (.st 1))] [(11, 0), (10, 1)]
theorem kLaw_45_eq : kx C run lp (kLaw_45 C) ⟨kLaw_T v0 v1 v2 v6 v7 v8 v9 v10 v11 v12 v13 v14 v15 v17 v25 v40 v42 v43 v44 v54 v64 v74 v84 v108, h⟩ = kNrm (moveA v2 h (fun a0 h => moveA v1 h (fun a1 h => bldA (placeOf C [(0, 3), (1, 3), (2, 27), (3, 23)]) [.int 9223372036854775807 0, .int 9223372036854775807 0, .int 18446744073709551615 0, .nils] [(0, (.int 9223372036854775807 1)), (1, a0), (3, a1)] h (fun a2 h => withX (fun a3 h => moveA a3 h (fun a4 h => extA 0 a4 h (fun a5 h => extA 1 a4 h (fun a6 h => moveA a5 h (fun a7 h => moveA a6 h (fun a8 h => some (.st (kLaw_T v0 v1 v2 v6 v7 v8 v9 a7 a8 v12 v13 v14 v15 v17 v25 v40 v42 v43 v44 v54 v64 v74 v84 v108) h))))))) (callA C run 7 [a2] h))))) := (rfl)
def kLaw_46 (C : Cx) : K := .reg [.mk (o1 moveA (.tr 2)), .mk (o2 (cmp ine) (.st 0) (.cst (.int 9223372036854775807 2)))] [(64, 0)]
theorem kLaw_46_eq : kx C run lp (kLaw_46 C) ⟨kLaw_T v0 v1 v2 v6 v7 v8 v9 v10 v11 v12 v13 v14 v15 v17 v25 v40 v42 v43 v44 v54 v64 v74 v84 v108, h⟩ = kNrm (moveA v2 h (fun a0 h => cmp ine a0 (.int 9223372036854775807 2) h (fun a1 h => some (.st (kLaw_T v0 v1 v2 v6 v7 v8 v9 v10 v11 v12 v13 v14 v15 v17 v25 v40 v42 v43 v44 v54 a1 v74 v84 v108) h)))) := (rfl)
def kLaw_47 (C : Cx) : K := .reg [.mk (o1 moveA (.tr 11)), .mk (o2 (cmp ibeq) (.st 0) (.cst (.int 9223372036854775807 213))), .mk (o1 moveA (.st 0)), .mk (guardA (.st 0) true ((o1 moveA (.tr 10)))), .mk (guardA (.st 1) true ((o1 lenS (.st 0)))), .mk (guardA (.st 2) true ((o2 (cmp ibeq) (.st 0) (.cst (.int 9223372036854775807 0))))), .mk (o3 pickA (.st 3) (.st 0) (.cst (.bool false))), .mk (o1 moveA (.st 0))] [(6, 0)]
theorem kLaw_47_eq : kx C run lp (kLaw_47 C) ⟨kLaw_T v0 v1 v2 v6 v7 v8 v9 v10 v11 v12 v13 v14 v15 v17 v25 v40 v42 v43 v44 v54 v64 v74 v84 v108, h⟩ = kNrm (moveA v11 h (fun a0 h => cmp ibeq a0 (.int 9223372036854775807 213) h (fun a1 h => moveA a1 h (fun a2 h => guardC a2 true (fun κ => moveA v10 h (κ)) h (fun a3 h => guardC a2 true (fun κ => lenS a3 h (κ)) h (fun a4 h => guardC a2 true (fun κ => cmp ibeq a4 (.int 9223372036854775807 0) h (κ)) h (fun a5 h => pickA a2 a5 (.bool false) h (fun a6 h => moveA a6 h (fun a7 h => some (.st (kLaw_T v0 v1 v2 a7 v7 v8 v9 v10 v11 v12 v13 v14 v15 v17 v25 v40 v42 v43 v44 v54 v64 v74 v84 v108) h)))))))))) := (rfl)
def kLaw_48 (_ : Cx) : K := .ex .ret
theorem kLaw_48_eq : kx C run lp (kLaw_48 C) s = some (.ret, s) := (rfl)
def kLaw_49 (C : Cx) : K := .seq (kLaw_47 C) (kLaw_48 C)
theorem kLaw_49_eq : kx C run lp (kLaw_49 C) s = obind (kx C run lp (kLaw_47 C) s) (kThen (kx C run lp (kLaw_48 C))) := (rfl)
def kLaw_50 (_ : Cx) : K := .skip
theorem kLaw_50_eq : kx C run lp (kLaw_50 C) s = some (.nrm, s) := (rfl)
def kLaw_51 (C : Cx) : K := .cond (.tr 64) (kLaw_49 C) (kLaw_50 C)
theorem kLaw_51_eq : kx C run lp (kLaw_51 C) ⟨kLaw_T v0 v1 v2 v6 v7 v8 v9 v10 v11 v12 v13 v14 v15 v17 v25 v40 v42 v43 v44 v54 v64 v74 v84 v108, h⟩ = kIf v64 (kx C run lp (kLaw_49 C)) (kx C run lp (kLaw_50 C)) ⟨kLaw_T v0 v1 v2 v6 v7 v8 v9 v10 v11 v12 v13 v14 v15 v17 v25 v40 v42 v43 v44 v54 v64 v74 v84 v108, h⟩ := (rfl)
def kLaw_52 (C : Cx) : K := .seq (kLaw_46 C) (kLaw_51 C)
theorem kLaw_52_eq : kx C run lp (kLaw_52 C) s = obind (kx C run lp (kLaw_46 C) s) (kThen (kx C run lp (kLaw_51 C))) := (rfl)
def kLaw_53 (C : Cx) : K := .reg [.mk (o1 moveA (.cst (.int 9223372036854775807 0)))] [(12, 0)]
theorem kLaw_53_eq : kx C run lp (kLaw_53 C) ⟨kLaw_T v0 v1 v2 v6 v7 v8 v9 v10 v11 v12 v13 v14 v15 v17 v25 v40 v42 v43 v44 v54 v64 v74 v84 v108, h⟩ = kNrm (moveA (.int 9223372036854775807 0) h (fun a0 h => some (.st (kLaw_T v0 v1 v2 v6 v7 v8 v9 v10 v11 a0 v13 v14 v15 v17 v25 v40 v42 v43 v44 v54 v64 v74 v84 v108) h))) := (rfl)
def kLaw_54 (C : Cx) : K := .reg [.mk (o1 moveA (.tr 1)), .mk (o1 lenS (.st 0)), .mk (o2 (cmp igt) (.st 0) (.cst (.int 9223372036854775807 0)))] [(74, 0)]
theorem kLaw_54_eq : kx C run lp (kLaw_54 C) ⟨kLaw_T v0 v1 v2 v6 v7 v8 v9 v10 v11 v12 v13 v14 v15 v17 v25 v40 v42 v43 v44 v54 v64 v74 v84 v108, h⟩ = kNrm (moveA v1 h (fun a0 h => lenS a0 h (fun a1 h => cmp igt a1 (.int 9223372036854775807 0) h (fun a2 h => some (.st (kLaw_T v0 v1 v2 v6 v7 v8 v9 v10 v11 v12 v13 v14 v15 v17 v25 v40 v42 v43 v44 v54 v64 a2 v84 v108) h))))) := (rfl)
def kLaw_55 (_ : Cx) : K := .skip
theorem kLaw_55_eq : kx C run lp (kLaw_55 C) s = some (.nrm, s) := (rfl)
def kLaw_56 (_ : Cx) : K := .ex (.exit 2)
theorem kLaw_56_eq : kx C run lp (kLaw_56 C) s = some (.exit 2, s) := (rfl)
def kLaw_57 (C : Cx) : K := .cond (.tr 74) (kLaw_55 C) (kLaw_56 C)
theorem kLaw_57_eq : kx C run lp (kLaw_57 C) ⟨kLaw_T v0 v1 v2 v6 v7 v8 v9 v10 v11 v12 v13 v14 v15 v17 v25 v40 v42 v43 v44 v54 v64 v74 v84 v108, h⟩ = kIf v74 (kx C run lp (kLaw_55 C)) (kx C run lp (kLaw_56 C)) ⟨kLaw_T v0 v1 v2 v6 v7 v8 v9 v10 v11 v12 v13 v14 v15 v17 v25 v40 v42 v43 v44 v54 v64 v74 v84 v108, h⟩ := (rfl)
def kLaw_58 (C : Cx) : K := .seq (kLaw_54 C) (kLaw_57 C)
theorem kLaw_58_eq : kx C run lp (kLaw_58 C) s = obind (kx C run lp (kLaw_54 C) s) (kThen (kx C run lp (kLaw_57 C))) := (rfl)
def kLaw_59 (C : Cx) : K := .reg [.mk (o1 moveA (.tr 1)), .mk (oCallF 8 [(.st 0), (.cst (.bool true))]), .mk (o1 moveA (.st 0)), .mk (o1 (extA 0) (.st 0)), .mk (o1 (extA 1) (.st 1)), .mk (o1 (extA 2) (.st 2)), .mk (o1 moveA (.st 2)), .mk (o1 moveA (.st 2)), .mk (o1 moveA (.st 2))] [(15, 0), (14, 1), (13, 2)]
theorem kLaw_59_eq : kx C run lp (kLaw_59 C) ⟨kLaw_T v0 v1 v2 v6 v7 v8 v9 v10 v11 v12 v13 v14 v15 v17 v25 v40 v42 v43 v44 v54 v64 v74 v84 v108, h⟩ = kNrm (moveA v1 h (fun a0 h => withX (fun a1 h => moveA a1 h (fun a2 h => extA 0 a2 h (fun a3 h => extA 1 a2 h (fun a4 h => extA 2 a2 h (fun a5 h => moveA a3 h (fun a6 h => moveA a4 h (fun a7 h => moveA a5 h (fun a8 h => some (.st (kLaw_T v0 v1 v2 v6 v7 v8 v9 v10 v11 v12 a6 a7 a8 v17 v25 v40 v42 v43 v44 v54 v64 v74 v84 v108) h))))))))) (callA C run 8 [a0, (.bool true)] h))) := (rfl)
def kLaw_60 (C : Cx) : K := .reg [.mk (o1 moveA (.tr 15)), .mk (o2 (cmp ine) (.st 0) (.cst (.int 9223372036854775807 0)))] [(84, 0)]
theorem kLaw_60_eq : kx C run lp (kLaw_60 C) ⟨kLaw_T v0 v1 v2 v6 v7 v8 v9 v10 v11 v12 v13 v14 v15 v17 v25 v40 v42 v43 v44 v54 v64 v74 v84 v108, h⟩ = kNrm (moveA v15 h (fun a0 h => cmp ine a0 (.int 9223372036854775807 0) h (fun a1 h => some (.st (kLaw_T v0 v1 v2 v6 v7 v8 v9 v10 v11 v12 v13 v14 v15 v17 v25 v40 v42 v43 v44 v54 v64 v74 a1 v108) h)))) := (rfl)
def kLaw_61 (C : Cx) : K := .reg [.mk (o1 moveA (.tr 11)), .mk (o1 moveA (.tr 15)), .mk (o2 (cmp ibeq) (.st 1) (.st 0)), .mk (o1 moveA (.st 0)), .mk (guardA (.st 0) true ((o1 moveA (.tr 10)))), .mk (guardA (.st 1) true ((o1 lenS (.st 0)))), .mk (guardA (.st 2) true ((o2 (cmp ibeq) (.st 0) (.cst (.int 9223372036854775807 0))))), .mk (o3 pickA (.st 3) (.st 0) (.cst (.bool false))), .mk (o1 moveA (.st 0))] [(6, 0)]
theorem kLaw_61_eq : kx C run lp (kLaw_61 C) ⟨kLaw_T v0 v1 v2 v6 v7 v8 v9 v10 v11 v12 v13 v14 v15 v17 v25 v40 v42 v43 v44 v54 v64 v74 v84 v108, h⟩ = kNrm (moveA v11 h (fun a0 h => moveA v15 h (fun a1 h => cmp ibeq a0 a1 h (fun a2 h => moveA a2 h (fun a3 h => guardC a3 true (fun κ => moveA v10 h (κ)) h (fun a4 h => guardC a3 true (fun κ => lenS a4 h (κ)) h (fun a5 h => guardC a3 true (fun κ => cmp ibeq a5 (.int 9223372036854775807 0) h (κ)) h (fun a6 h => pickA a3 a6 (.bool false) h (fun a7 h => moveA a7 h (fun a8 h => some (.st (kLaw_T v0 v1 v2 a8 v7 v8 v9 v10 v11 v12 v13 v14 v15 v17 v25 v40 v42 v43 v44 v54 v64 v74 v84 v108) h))))))))))) := (rfl)
def kLaw_62 (_ : Cx) : K := .ex .ret
theorem kLaw_62_eq : kx C run lp (kLaw_62 C) s = some (.ret, s) := (rfl)
def kLaw_63 (C : Cx) : K := .seq (kLaw_61 C) (kLaw_62 C)
theorem kLaw_63_eq : kx C run lp (kLaw_63 C) s = obind (kx C run lp (kLaw_61 C) s) (kThen (kx C run lp (kLaw_62 C))) := (rfl)
def kLaw_64 (_ : Cx) : K := .skip
theorem kLaw_64_eq : kx C run lp (kLaw_64 C) s = some (.nrm, s) := (rfl)
def kLaw_65 (C : Cx) : K := .cond (.tr 84) (kLaw_63 C) (kLaw_64 C)
theorem kLaw_65_eq : kx C run lp (kLaw_65 C) ⟨kLaw_T v0 v1 v2 v6 v7 v8 v9 v10 v11 v12 v13 v14 v15 v17 v25 v40 v42 v43 v44 v54 v64 v74 v84 v108, h⟩ = kIf v84 (kx C run lp (kLaw_63 C)) (kx C run lp (kLaw_64 C)) ⟨kLaw_T v0 v1 v2 v6 v7 v8 v9 v10 v11 v12 v13 v14 v15 v17 v25 v40 v42 v43 v44 v54 v64 v74 v84 v108, h⟩ := (rfl)
def kLaw_66 (C : Cx) : K := .seq (kLaw_60 C) (kLaw_65 C)
theorem kLaw_66_eq : kx C run lp (kLaw_66 C) s = obind (kx C run lp (kLaw_60 C) s) (kThen (kx C run lp (kLaw_65 C))) := (rfl)
def kLaw_67 (C : Cx) : K := .reg [.mk (o1 moveA (.tr 11)), .mk (o2 (cmp ibeq) (.st 0) (.cst (.int 9223372036854775807 0))), .mk (o1 moveA (.st 0)), .mk (guardA (.st 0) true ((o1 moveA (.tr 12)))), .mk (guardA (.st 1) true ((o1 moveA (.tr 10)))), .mk (guardA (.st 2) true ((o1 lenS (.st 0)))), .mk (guardA (.st 3) true ((o2 (cmp ige) (.st 2) (.st 0)))), .mk (guardA (.st 4) true ((o1 moveA (.st 0)))), .mk (guardA (.st 0) false ((o1 moveA (.tr 10)))), .mk (guardA (.st 1) false ((o1 moveA (.tr 12)))), .mk (guardA (.st 2) false ((o2 (idxS 1) (.st 1) (.st 0)))), .mk (guardA (.st 3) false ((o1 load1 (.st 0)))), .mk (guardA (.st 4) false ((o1 moveA (.tr 13)))), .mk (guardA (.st 5) false ((o2 (cmp ine) (.st 1) (.st 0)))), .mk (guardA (.st 11) true ((o3 pickA (.st 6) (.cst (.bool true)) (.st 0)))), .mk (o3 pickA (.st 12) (.st 0) (.cst (.bool false)))] [(108, 0)]
theorem kLaw_67_eq : kx C run lp (kLaw_67 C) ⟨kLaw_T v0 v1 v2 v6 v7 v8 v9 v10 v11 v12 v13 v14 v15 v17 v25 v40 v42 v43 v44 v54 v64 v74 v84 v108, h⟩ = kNrm (moveA v11 h (fun a0 h => cmp ibeq a0 (.int 9223372036854775807 0) h (fun a1 h => moveA a1 h (fun a2 h => guardC a2 true (fun κ => moveA v12 h (κ)) h (fun a3 h => guardC a2 true (fun κ => moveA v10 h (κ)) h (fun a4 h => guardC a2 true (fun κ => lenS a4 h (κ)) h (fun a5 h => guardC a2 true (fun κ => cmp ige a3 a5 h (κ)) h (fun a6 h => guardC a2 true (fun κ => moveA a6 h (κ)) h (fun a7 h => guardC a7 false (fun κ => moveA v10 h (κ)) h (fun a8 h => guardC a7 false (fun κ => moveA v12 h (κ)) h (fun a9 h => guardC a7 false (fun κ => idxS 1 a8 a9 h (κ)) h (fun a10 h => guardC a7 false (fun κ => load1 a10 h (κ)) h (fun a11 h => guardC a7 false (fun κ => moveA v13 h (κ)) h (fun a12 h => guardC a7 false (fun κ => cmp ine a11 a12 h (κ)) h (fun a13 h => guardC a2 true (fun κ => pickA a7 (.bool true) a13 h (κ)) h (fun a14 h => pickA a2 a14 (.bool false) h (fun a15 h => some (.st (kLaw_T v0 v1 v2 v6 v7 v8 v9 v10 v11 v12 v13 v14 v15 v17 v25 v40 v42 v43 v44 v54 v64 v74 v84 a15) h)))))))))))))))))) := by kernel_rfl
def kLaw_68 (C : Cx) : K := .reg [.mk (o1 moveA (.cst (.bool false)))] [(6, 0)]
theorem kLaw_68_eq : kx C run lp (kLaw_68 C) ⟨kLaw_T v0 v1 v2 v6 v7 v8 v9 v10 v11 v12 v13 v14 v15 v17 v25 v40 v42 v43 v44 v54 v64 v74 v84 v108, h⟩ = kNrm (moveA (.bool false) h (fun a0 h => some (.st (kLaw_T v0 v1 v2 a0 v7 v8 v9 v10 v11 v12 v13 v14 v15 v17 v25 v40 v42 v43 v44 v54 v64 v74 v84 v108) h))) := (rfl)
def kLaw_69 (_ : Cx) : K := .ex .ret
theorem kLaw_69_eq : kx C run lp (kLaw_69 C) s = some (.ret, s) := (rfl)
def kLaw_70 (C : Cx) : K := .seq (kLaw_68 C) (kLaw_69 C)
theorem kLaw_70_eq : kx C run lp (kLaw_70 C) s = obind (kx C run lp (kLaw_68 C) s) (kThen (kx C run lp (kLaw_69 C))) := (rfl)
def kLaw_71 (_ : Cx) : K := .skip
theorem kLaw_71_eq : kx C run lp (kLaw_71 C) s = some (.nrm, s) := (rfl)
def kLaw_72 (C : Cx) : K := .cond (.tr 108) (kLaw_70 C) (kLaw_71 C)
theorem kLaw_72_eq : kx C run lp (kLaw_72 C) ⟨kLaw_T v0 v1 v2 v6 v7 v8 v9 v10 v11 v12 v13 v14 v15 v17 v25 v40 v42 v43 v44 v54 v64 v74 v84 v108, h⟩ = kIf v108 (kx C run lp (kLaw_70 C)) (kx C run lp (kLaw_71 C)) ⟨kLaw_T v0 v1 v2 v6 v7 v8 v9 v10 v11 v12 v13 v14 v15 v17 v25 v40 v42 v43 v44 v54 v64 v74 v84 v108, h⟩ := (rfl)
def kLaw_73 (C : Cx) : K := .seq (kLaw_67 C) (kLaw_72 C)
theorem kLaw_73_eq : kx C run lp (kLaw_73 C) s = obind (kx C run lp (kLaw_67 C) s) (kThen (kx C run lp (kLaw_72 C))) := (rfl)
def kLaw_74 (C : Cx) : K := .reg [.mk (o1 moveA (.tr 1)), .mk (o1 moveA (.tr 14)), .mk (oSlS 1 (.st 1) (some (.st 0)) none none), .mk (o1 moveA (.st 0))] [(1, 0)]
theorem kLaw_74_eq : kx C run lp (kLaw_74 C) ⟨kLaw_T v0 v1 v2 v6 v7 v8 v9 v10 v11 v12 v13 v14 v15 v17 v25 v40 v42 v43 v44 v54 v64 v74 v84 v108, h⟩ = kNrm (moveA v1 h (fun a0 h => moveA v14 h (fun a1 h => slS 1 a0 (some a1) none none h (fun a2 h => moveA a2 h (fun a3 h => some (.st (kLaw_T v0 a3 v2 v6 v7 v8 v9 v10 v11 v12 v13 v14 v15 v17 v25 v40 v42 v43 v44 v54 v64 v74 v84 v108) h)))))) := (rfl)
def kLaw_75 (C : Cx) : K := .seq (kLaw_73 C) (kLaw_74 C)
theorem kLaw_75_eq : kx C run lp (kLaw_75 C) s = obind (kx C run lp (kLaw_73 C) s) (kThen (kx C run lp (kLaw_74 C))) := (rfl)
def kLaw_76 (C : Cx) : K := .seq (kLaw_66 C) (kLaw_75 C)
theorem kLaw_76_eq : kx C run lp (kLaw_76 C) s = obind (kx C run lp (kLaw_66 C) s) (kThen (kx C run lp (kLaw_75 C))) := (rfl)
def kLaw_77 (C : Cx) : K := .seq (kLaw_59 C) (kLaw_76 C)
theorem kLaw_77_eq : kx C run lp (kLaw_77 C) s = obind (kx C run lp (kLaw_59 C) s) (kThen (kx C run lp (kLaw_76 C))) := (rfl)
def kLaw_78 (C : Cx) : K := .block 3 (kLaw_77 C)
theorem kLaw_78_eq : kx C run lp (kLaw_78 C) s = obind (kx C run lp (kLaw_77 C) s) (kOut 3) := (rfl)
def kLaw_79 (C : Cx) : K := .reg [.mk (o1 moveA (.tr 12)), .mk (o2 (arith iadd) (.st 0) (.cst (.int 9223372036854775807 1))), .mk (o1 moveA (.st 0))] [(12, 0)]
theorem kLaw_79_eq : kx C run lp (kLaw_79 C) ⟨kLaw_T v0 v1 v2 v6 v7 v8 v9 v10 v11 v12 v13 v14 v15 v17 v25 v40 v42 v43 v44 v54 v64 v74 v84 v108, h⟩ = kNrm (moveA v12 h (fun a0 h => arith iadd a0 (.int 9223372036854775807 1) h (fun a1 h => moveA a1 h (fun a2 h => some (.st (kLaw_T v0 v1 v2 v6 v7 v8 v9 v10 v11 a2 v13 v14 v15 v17 v25 v40 v42 v43 v44 v54 v64 v74 v84 v108) h))))) := (rfl)
def kLaw_80 (C : Cx) : K := .seq (kLaw_78 C) (kLaw_79 C)
theorem kLaw_80_eq : kx C run lp (kLaw_80 C) s = obind (kx C run lp (kLaw_78 C) s) (kThen (kx C run lp (kLaw_79 C))) := (rfl)
def kLaw_81 (C : Cx) : K := .seq (kLaw_58 C) (kLaw_80 C)
theorem kLaw_81_eq : kx C run lp (kLaw_81 C) s = obind (kx C run lp (kLaw_58 C) s) (kThen (kx C run lp (kLaw_80 C))) := (rfl)
def kLaw_82 (C : Cx) : K := .loop (kLaw_81 C)
theorem kLaw_82_eq : kx C run lp (kLaw_82 C) s = lp (kLaw_81 C) s := (rfl)
def kLaw_83 (C : Cx) : K := .block 2 (kLaw_82 C)
theorem kLaw_83_eq : kx C run lp (kLaw_83 C) s = obind (kx C run lp (kLaw_82 C) s) (kOut 2) := (rfl)
def kLaw_84 (C : Cx) : K := .seq (kLaw_53 C) (kLaw_83 C)
theorem kLaw_84_eq : kx C run lp (kLaw_84 C) s = obind (kx C run lp (kLaw_53 C) s) (kThen (kx C run lp (kLaw_83 C))) := (rfl)
def kLaw_85 (C : Cx) : K := .reg [.mk (o1 moveA (.tr 11)), .mk (o2 (cmp ibeq) (.st 0) (.cst (.int 9223372036854775807 0))), .mk (o1 moveA (.st 0))] [(6, 0)]
theorem kLaw_85_eq : kx C run lp (kLaw_85 C) ⟨kLaw_T v0 v1 v2 v6 v7 v8 v9 v10 v11 v12 v13 v14 v15 v17 v25 v40 v42 v43 v44 v54 v64 v74 v84 v108, h⟩ = kNrm (moveA v11 h (fun a0 h => cmp ibeq a0 (.int 9223372036854775807 0) h (fun a1 h => moveA a1 h (fun a2 h => some (.st (kLaw_T v0 v1 v2 a2 v7 v8 v9 v10 v11 v12 v13 v14 v15 v17 v25 v40 v42 v43 v44 v54 v64 v74 v84 v108) h))))) := (rfl)
def kLaw_86 (_ : Cx) : K := .ex .ret
theorem kLaw_86_eq : kx C run lp (kLaw_86 C) s = some (.ret, s) := (rfl)
def kLaw_87 (C : Cx) : K := .seq (kLaw_85 C) (kLaw_86 C)
theorem kLaw_87_eq : kx C run lp (kLaw_87 C) s = obind (kx C run lp (kLaw_85 C) s) (kThen (kx C run lp (kLaw_86 C))) := (rfl)
def kLaw_88 (C : Cx) : K := .seq (kLaw_84 C) (kLaw_87 C)
theorem kLaw_88_eq : kx C run lp (kLaw_88 C) s = obind (kx C run lp (kLaw_84 C) s) (kThen (kx C run lp (kLaw_87 C))) := (rfl)
def kLaw_89 (C : Cx) : K := .seq (kLaw_52 C) (kLaw_88 C)
theorem kLaw_89_eq : kx C run lp (kLaw_89 C) s = obind (kx C run lp (kLaw_52 C) s) (kThen (kx C run lp (kLaw_88 C))) := (rfl)
def kLaw_90 (C : Cx) : K := .seq (kLaw_45 C) (kLaw_89 C)
theorem kLaw_90_eq : kx C run lp (kLaw_90 C) s = obind (kx C run lp (kLaw_45 C) s) (kThen (kx C run lp (kLaw_89 C))) := (rfl)
def kLaw_91 (C : Cx) : K := .seq (kLaw_44 C) (kLaw_90 C)
theorem kLaw_91_eq : kx C run lp (kLaw_91 C) s = obind (kx C run lp (kLaw_44 C) s) (kThen (kx C run lp (kLaw_90 C))) := (rfl)
def kLaw_92 (C : Cx) : K := .seq (kLaw_22 C) (kLaw_91 C)
theorem kLaw_92_eq : kx C run lp (kLaw_92 C) s = obind (kx C run lp (kLaw_22 C) s) (kThen (kx C run lp (kLaw_91 C))) := (rfl)
def kLaw_93 (C : Cx) : K := .seq (kLaw_15 C) (kLaw_92 C)
theorem kLaw_93_eq : kx C run lp (kLaw_93 C) s = obind (kx C run lp (kLaw_15 C) s) (kThen (kx C run lp (kLaw_92 C))) := (rfl)
def kLaw_94 (C : Cx) : K := .seq (kLaw_14 C) (kLaw_93 C)
theorem kLaw_94_eq : kx C run lp (kLaw_94 C) s = obind (kx C run lp (kLaw_14 C) s) (kThen (kx C run lp (kLaw_93 C))) := (rfl)
def kLaw_95 (C : Cx) : K := .seq (kLaw_7 C) (kLaw_94 C)
theorem kLaw_95_eq : kx C run lp (kLaw_95 C) s = obind (kx C run lp (kLaw_7 C) s) (kThen (kx C run lp (kLaw_94 C))) := (rfl)
def kLaw_96 (C : Cx) : K := .seq (kLaw_0 C) (kLaw_95 C)
theorem kLaw_96_eq : kx C run lp (kLaw_96 C) s = obind (kx C run lp (kLaw_0 C) s) (kThen (kx C run lp (kLaw_95 C))) := (rfl)
theorem kLaw_ret : endA C [.tmp 6] (.ret, ⟨kLaw_T v0 v1 v2 v6 v7 v8 v9 v10 v11 v12 v13 v14 v15 v17 v25 v40 v42 v43 v44 v54 v64 v74 v84 v108, h⟩) = some (v6, h) := (rfl)
theorem kLaw_nrm : endA C [.tmp 6] (.nrm, ⟨kLaw_T v0 v1 v2 v6 v7 v8 v9 v10 v11 v12 v13 v14 v15 v17 v25 v40 v42 v43 v44 v54 v64 v74 v84 v108, h⟩) = some (v6, h) := (rfl)
end
def kLaw_F (C : Cx) : FK := ⟨kLaw_96 C, [0, 1, 2, 6, 7, 8, 9, 10, 11, 12, 13, 14, 15, 17, 25, 40, 42, 43, 44, 54, 64, 74, 84, 108], 114, [.tmp 6]⟩
theorem kLaw_run (C : Cx) (run : Run) (lp : Lp) (x0 x1 x2 : AV) (h : AH) (ho : C.orc 3 = none) (hf : fkAt C 3 = some (kLaw_F C)) : runF C run lp 3 [x0, x1, x2] h = obind (kx C run lp (kLaw_96 C) ⟨kLaw_T x0 x1 x2 .bot .bot .bot .bot .bot .bot .bot .bot .bot .bot .bot .bot .bot .bot .bot .bot .bot .bot .bot .bot .bot, h⟩) (endA C [.tmp 6]) := by
  unfold runF; rw [ho, hf]; rfl

theorem kLaw_fk (mx : Int) : fkAt (CL mx) 3 = some (kLaw_F (CL mx)) := by kernel_rfl
end
/- there and back -/
theorem dec_enc : ∀ (k x acc cnt : Nat) (r : List Nat), cnt + k = 9 → x * 128 ^ cnt ≤ 18446744073709551615 → dec acc cnt (enc k x ++ r) = (0, acc + x * 128 ^ cnt, cnt + (enc k x).length)
  | 0, x, acc, cnt, r, hk, hx => by
    obtain rfl : cnt = 9 := by omega
    have e9 : 128 ^ 9 = 9223372036854775808 := by decide
    have hx1 : x ≤ 1 := by rw [e9] at hx; omega
    show dec acc 9 (x :: r) = _
    unfold dec
    rw [if_neg (by omega), if_pos (by omega), Nat.mod_eq_of_lt (by omega)]
    rfl
  | k + 1, x, acc, cnt, r, hk, hx => by
    unfold enc
    by_cases h : x < 128
    · rw [if_pos h]
      show dec acc cnt (x :: r) = _
      unfold dec
      rw [if_neg (by omega), if_pos h, Nat.mod_eq_of_lt h]
      rfl
    · rw [if_neg h]
      show dec acc cnt ((128 + x % 128) :: (enc k (x / 128) ++ r)) = _
      unfold dec
      rw [if_neg (by omega), if_neg (by omega), dec_enc k (x / 128) _ (cnt + 1) r (by omega) ?_]
      · have e1 : (128 + x % 128) % 128 = x % 128 := by omega
        rw [e1, Nat.add_assoc]
        have e2 : x % 128 * 128 ^ cnt + x / 128 * 128 ^ (cnt + 1) = x * 128 ^ cnt := by
          rw [Nat.pow_succ, Nat.mul_comm (128 ^ cnt) 128, ← Nat.mul_assoc, ← Nat.add_mul]
          congr 1; omega
        rw [e2]
        simp; omega
      · refine Nat.le_trans ?_ hx
        rw [Nat.pow_succ, Nat.mul_comm (128 ^ cnt) 128, ← Nat.mul_assoc]
        exact Nat.mul_le_mul (by omega) (Nat.le_refl _)
theorem decs_enc : ∀ (L : List Nat) (k : Nat), (∀ x ∈ L, x ≤ 18446744073709551615) → L.length < k → decs k (L.flatMap (enc 9)) = (0, L)
  | [], k, _, hk => by
    obtain ⟨k, rfl⟩ : ∃ j, k = j + 1 := ⟨k - 1, by simp at hk; omega⟩
    simp [decs]
  | x :: L, k, hx, hk => by
    obtain ⟨k, rfl⟩ : ∃ j, k = j + 1 := ⟨k - 1, by simp at hk; omega⟩
    have h1 := dec_enc 9 x 0 0 (L.flatMap (enc 9)) rfl (by simpa using hx x (List.mem_cons_self ..))
    simp only [Nat.pow_zero, Nat.mul_one, Nat.zero_add] at h1
    have hl := enc_len 9 x
    rw [List.flatMap_cons]
    unfold decs
    rw [if_neg (by intro e; have := congrArg List.length e; rw [List.length_append, List.length_nil] at this; omega), h1, if_neg (by simp), List.drop_left, decs_enc L k (fun y hy => hx y (List.mem_cons_of_mem _ hy)) (by simp at hk; omega)]
theorem enc_all (L : List Nat) (hx : ∀ x ∈ L, x ≤ 18446744073709551615) : (∀ c ∈ L.flatMap (enc 9), c < 256) ∧ (L.flatMap (enc 9)).length ≤ 10 * L.length ∧ L.length ≤ (L.flatMap (enc 9)).length := by
  induction L with
  | nil => simp
  | cons x L ih =>
    obtain ⟨i1, i2, i3⟩ := ih fun y hy => hx y (List.mem_cons_of_mem _ hy)
    have hl := enc_len 9 x
    refine ⟨fun c hc => ?_, ?_, ?_⟩
    · rw [List.flatMap_cons, List.mem_append] at hc
      rcases hc with hc | hc
      · exact enc_le 9 x (by have := hx x (List.mem_cons_self ..); simp; omega) c hc
      · exact i1 c hc
    · rw [List.flatMap_cons, List.length_append, List.length_cons]; omega
    · rw [List.flatMap_cons, List.length_append, List.length_cons]; omega
/-- Bytes that came in. -/
def PureB (v : AV) (bs : List Nat) : Prop := (bs = [] ∧ (v = .nils ∨ v = .sle)) ∨ v = .slp (bytesA bs) bs.length
theorem PureB.at {v : AV} {bs : List Nat} (p : PureB v bs) (h : AH) : SlAt h v (bytesA bs) ∧ v.lt 0 = true := by
  rcases p with ⟨rfl, rfl | rfl⟩ | rfl
  · exact ⟨.inl ⟨rfl, .inl rfl⟩, rfl⟩
  · exact ⟨.inl ⟨rfl, .inr rfl⟩, rfl⟩
  · exact ⟨.inr (.inl ⟨bytesA bs, by rw [bytesA_len], by rw [List.take_length]⟩), rfl⟩
theorem PureB.cut {v : AV} {bs : List Nat} (p : PureB v bs) (hb : bs ≠ []) {n : Nat} (hn : n ≤ bs.length) (k : Nat) (h : AH) (κ : Ka) : slS 1 v (some (.int k (n : Int))) none none h κ = κ (.slp (bytesA (bs.drop n)) (bs.drop n).length) h := by
  rcases p with ⟨rfl, _⟩ | rfl
  · exact absurd rfl hb
  · show bq (and (and (Nat.ble n bs.length) (Nat.ble bs.length bs.length)) (and (Nat.ble bs.length bs.length) true)) (bq (Nat.beq (flen (bytesA bs)) (Nat.mul bs.length 1)) (κ (.slp (ftake (Nat.mul (Nat.sub bs.length n) 1) (fdrop (Nat.mul n 1) (bytesA bs))) (Nat.sub bs.length n)) h) none) none = _
    rw [nble, nble, decide_eq_true hn, decide_eq_true (Nat.le_refl _)]
    show bq (Nat.beq (flen (bytesA bs)) (Nat.mul bs.length 1)) _ none = _
    rw [nbeq, flen_eq, bytesA_len, bq_dec_pos (by show bs.length = bs.length * 1; omega), ftake_eq, fdrop_eq]
    show κ (.slp (List.take ((bs.length - n) * 1) (List.drop (n * 1) (bytesA bs))) (bs.length - n)) h = _
    rw [Nat.mul_one, Nat.mul_one, List.length_drop]
    congr 2
    unfold bytesA
    rw [← List.map_drop, ← List.map_take, List.take_of_length_le (by simp)]
theorem law_loop1 (mx : Int) {h : AH} {v0 v7 : AV} {L : List Nat} (h0 : SlAt h v0 (numsA L)) (h7 : SlAt h v7 (numsA L)) (hL : L.length ≤ 100) (v1 v2 v6 v8 v10 v11 v12 v13 v14 v15 v17 v25 v40 v64 v74 v84 v108 : AV) : ∀ (k i f : Nat) (v9 v44 v54 : AV), i + k = L.length → k + 2 ≤ f →
    ∃ u9 u44 u54, (rl (CL mx) f).lp (kLaw_41 (CL mx)) ⟨kLaw_T v0 v1 v2 v6 v7 v8 v9 v10 v11 v12 v13 v14 v15 v17 v25 v40 (.int 9223372036854775807 (L.length : Int)) (.int 9223372036854775807 (i : Int)) v44 v54 v64 v74 v84 v108, h⟩ =
      some (.exit 0, ⟨kLaw_T v0 v1 v2 v6 v7 v8 u9 v10 v11 v12 v13 v14 v15 v17 v25 v40 (.int 9223372036854775807 (L.length : Int)) (.int 9223372036854775807 (L.length : Int)) u44 u54 v64 v74 v84 v108, h⟩) := by
  intro k
  induction k with
  | zero =>
    intro i f v9 v44 v54 hi hf
    obtain ⟨f, rfl⟩ : ∃ g, f = g + 1 := ⟨f - 1, by omega⟩
    obtain rfl : i = L.length := by omega
    have dd : decide ((L.length : Int) < (L.length : Int)) = false := by simp
    refine ⟨v9, .bool false, v54, ?_⟩
    rw [rl_lp]
    simp only [guardC_b, guardC_u, beqB_tt, beqB_tf, beqB_ft, beqB_ff, min_eq, max_eq, vhO_kVH, ckN_eq, ckE_eq, List.length_set, ckX_same, bldS_int2, lt_agg, lt_tup, lt_int, lt_bool, lt_str, lt_nils, lt_sle, lt_nil, lt_slp, lt_ptp, kNrm_st, obindS, obindN, kThen_nrm, kThen_ret, kThen_exit, kOut_nrm, kOut_ret, kOut_exit, kIf_b, bqT, bqF, moveA_eq, pickA_eq, boxA_eq, newA_eq, cmp_eq, arith_eq, remA_eq, quoA_eq, notA_eq, negA_eq, cvI_eq, moveP_o, moveP_p, blkC_cells, load1_o, load1_p, loadG_o, loadG_p, store1_o, storeG_o, lenS_nils, lenS_sle, lenS_p, lenS_o, lenT_eq, idxS_p, idxS_o, idxT_eq, idxA_o, idxV1_eq, fld1_eq, fldG_eq, extA_eq, nilCk_o, nilCk_p, strAdd_eq, strCmp_eq, withX_some, withX_none, iaddE, isubE, imulE, iltE, igtE, ileE, igeE, ineE, ibeqE, hget_top, hget_zero, hget_succ, set_top, plains_nil, plains_cons, plain_int, plain_bool, plain_str, plain_nils, plain_slp, plain_sle, plain_nil, plain_pto, plain_ptp, plain_slo, nb_agg, nb_int, nb_bool, nb_str, nb_slp, nb_nils, nb_sle, nb_slo, cells_agg, cells_int, cells_bool, cells_str, List.length_cons, List.length_nil, List.length_append, List.take_succ_cons, List.take_zero, List.drop_succ_cons, List.drop_zero, List.cons_append, List.nil_append, List.append_nil, List.drop_nil, List.take_nil, List.getElem?_cons_zero, List.getElem?_cons_succ, List.set_cons_zero, List.set_cons_succ, Nat.reduceAdd, Nat.reduceMul, Nat.reduceSub, Nat.reduceLeDiff, Nat.reduceEqDiff, Nat.reduceLT, Nat.zero_add, Nat.add_zero, decide_true, decide_false, Bool.and_true, Bool.true_and, Bool.and_false, Bool.false_and, Bool.not_true, Bool.not_false, Nat.le_refl, reduceIte, kLaw_0_eq, kLaw_1_eq, kLaw_2_eq, kLaw_3_eq, kLaw_4_eq, kLaw_5_eq, kLaw_6_eq, kLaw_7_eq, kLaw_8_eq, kLaw_9_eq, kLaw_10_eq, kLaw_11_eq, kLaw_12_eq, kLaw_13_eq, kLaw_14_eq, kLaw_15_eq, kLaw_16_eq, kLaw_17_eq, kLaw_18_eq, kLaw_19_eq, kLaw_20_eq, kLaw_21_eq, kLaw_22_eq, kLaw_23_eq, kLaw_24_eq, kLaw_25_eq, kLaw_26_eq, kLaw_27_eq, kLaw_28_eq, kLaw_30_eq, kLaw_31_eq, kLaw_32_eq, kLaw_33_eq, kLaw_34_eq, kLaw_35_eq, kLaw_36_eq, kLaw_37_eq, kLaw_38_eq, kLaw_39_eq, kLaw_40_eq, kLaw_41_eq, kLaw_42_eq, kLaw_43_eq, kLaw_44_eq, kLaw_45_eq, kLaw_46_eq, kLaw_47_eq, kLaw_48_eq, kLaw_49_eq, kLaw_50_eq, kLaw_51_eq, kLaw_52_eq, kLaw_53_eq, kLaw_54_eq, kLaw_55_eq, kLaw_56_eq, kLaw_57_eq, kLaw_58_eq, kLaw_59_eq, kLaw_60_eq, kLaw_61_eq, kLaw_62_eq, kLaw_63_eq, kLaw_64_eq, kLaw_65_eq, kLaw_66_eq, kLaw_67_eq, kLaw_68_eq, kLaw_69_eq, kLaw_70_eq, kLaw_71_eq, kLaw_72_eq, kLaw_73_eq, kLaw_74_eq, kLaw_75_eq, kLaw_76_eq, kLaw_77_eq, kLaw_78_eq, kLaw_79_eq, kLaw_80_eq, kLaw_81_eq, kLaw_82_eq, kLaw_83_eq, kLaw_84_eq, kLaw_85_eq, kLaw_86_eq, kLaw_87_eq, kLaw_88_eq, kLaw_89_eq, kLaw_90_eq, kLaw_91_eq, kLaw_92_eq, kLaw_93_eq, kLaw_94_eq, kLaw_95_eq, kLaw_96_eq, kLaw_ret, kLaw_nrm, dd]
  | succ k ih =>
    intro i f v9 v44 v54 hi hf
    obtain ⟨f, rfl⟩ : ∃ g, f = g + 1 := ⟨f - 1, by omega⟩
    have hlt : i < L.length := by omega
    have dd : decide ((i : Int) < (L.length : Int)) = true := by rw [decide_eq_true_iff]; omega
    obtain ⟨x, ex⟩ : ∃ x, L[i]? = some x := ⟨_, List.getElem?_eq_getElem hlt⟩
    obtain ⟨p, p1, p2, p3⟩ := h0.idx (i := i) (c := .int 18446744073709551615 (x : Int)) (by unfold numsA; rw [List.getElem?_map, ex]; rfl)
    obtain ⟨q, q1, q2, q3⟩ := h7.idx (i := i) (c := .int 18446744073709551615 (x : Int)) (by unfold numsA; rw [List.getElem?_map, ex]; rfl)
    have l0 := h0.lt
    have l7 := h7.lt
    have hne : decide ((x : Int) ≠ (x : Int)) = false := by simp
    have w : wrapA 9223372036854775807 ((i : Int) + 1) = ((i + 1 : Nat) : Int) := by rw [wrapA_i64 (by omega) (by omega)]; push_cast; rfl
    obtain ⟨u9, u44, u54, e⟩ := ih (i + 1) f (.int 9223372036854775807 (i : Int)) (.bool true) (.bool false) (by omega) (by omega)
    refine ⟨u9, u44, u54, ?_⟩
    have hdr := kLaw_29_dr (CL mx) (rl (CL mx) f).run (rl (CL mx) f).lp h v0 v1 v2 v6 v7 v8 (.int 9223372036854775807 (i : Int)) v10 v11 v12 v13 v14 v15 v17 v25 v40 (.int 9223372036854775807 (L.length : Int)) (.int 9223372036854775807 (i : Int)) (.bool true) v54 v64 v74 v84 v108
      (.nrm, ⟨kLaw_T v0 v1 v2 v6 v7 v8 (.int 9223372036854775807 (i : Int)) v10 v11 v12 v13 v14 v15 v17 v25 v40 (.int 9223372036854775807 (L.length : Int)) (.int 9223372036854775807 (i : Int)) (.bool true) (.bool false) v64 v74 v84 v108, h⟩) (by simp only [guardC_b, guardC_u, beqB_tt, beqB_tf, beqB_ft, beqB_ff, min_eq, max_eq, vhO_kVH, ckN_eq, ckE_eq, List.length_set, ckX_same, bldS_int2, lt_agg, lt_tup, lt_int, lt_bool, lt_str, lt_nils, lt_sle, lt_nil, lt_slp, lt_ptp, kNrm_st, obindS, obindN, kThen_nrm, kThen_ret, kThen_exit, kOut_nrm, kOut_ret, kOut_exit, kIf_b, bqT, bqF, moveA_eq, pickA_eq, boxA_eq, newA_eq, cmp_eq, arith_eq, remA_eq, quoA_eq, notA_eq, negA_eq, cvI_eq, moveP_o, moveP_p, blkC_cells, load1_o, load1_p, loadG_o, loadG_p, store1_o, storeG_o, lenS_nils, lenS_sle, lenS_p, lenS_o, lenT_eq, idxS_p, idxS_o, idxT_eq, idxA_o, idxV1_eq, fld1_eq, fldG_eq, extA_eq, nilCk_o, nilCk_p, strAdd_eq, strCmp_eq, withX_some, withX_none, iaddE, isubE, imulE, iltE, igtE, ileE, igeE, ineE, ibeqE, hget_top, hget_zero, hget_succ, set_top, plains_nil, plains_cons, plain_int, plain_bool, plain_str, plain_nils, plain_slp, plain_sle, plain_nil, plain_pto, plain_ptp, plain_slo, nb_agg, nb_int, nb_bool, nb_str, nb_slp, nb_nils, nb_sle, nb_slo, cells_agg, cells_int, cells_bool, cells_str, List.length_cons, List.length_nil, List.length_append, List.take_succ_cons, List.take_zero, List.drop_succ_cons, List.drop_zero, List.cons_append, List.nil_append, List.append_nil, List.drop_nil, List.take_nil, List.getElem?_cons_zero, List.getElem?_cons_succ, List.set_cons_zero, List.set_cons_succ, Nat.reduceAdd, Nat.reduceMul, Nat.reduceSub, Nat.reduceLeDiff, Nat.reduceEqDiff, Nat.reduceLT, Nat.zero_add, Nat.add_zero, decide_true, decide_false, Bool.and_true, Bool.true_and, Bool.and_false, Bool.false_and, Bool.not_true, Bool.not_false, Nat.le_refl, reduceIte, l0, l7, p1, p2, p3, q1, q2, q3, hne])
    rw [rl_lp]
    simp only [guardC_b, guardC_u, beqB_tt, beqB_tf, beqB_ft, beqB_ff, min_eq, max_eq, vhO_kVH, ckN_eq, ckE_eq, List.length_set, ckX_same, bldS_int2, lt_agg, lt_tup, lt_int, lt_bool, lt_str, lt_nils, lt_sle, lt_nil, lt_slp, lt_ptp, kNrm_st, obindS, obindN, kThen_nrm, kThen_ret, kThen_exit, kOut_nrm, kOut_ret, kOut_exit, kIf_b, bqT, bqF, moveA_eq, pickA_eq, boxA_eq, newA_eq, cmp_eq, arith_eq, remA_eq, quoA_eq, notA_eq, negA_eq, cvI_eq, moveP_o, moveP_p, blkC_cells, load1_o, load1_p, loadG_o, loadG_p, store1_o, storeG_o, lenS_nils, lenS_sle, lenS_p, lenS_o, lenT_eq, idxS_p, idxS_o, idxT_eq, idxA_o, idxV1_eq, fld1_eq, fldG_eq, extA_eq, nilCk_o, nilCk_p, strAdd_eq, strCmp_eq, withX_some, withX_none, iaddE, isubE, imulE, iltE, igtE, ileE, igeE, ineE, ibeqE, hget_top, hget_zero, hget_succ, set_top, plains_nil, plains_cons, plain_int, plain_bool, plain_str, plain_nils, plain_slp, plain_sle, plain_nil, plain_pto, plain_ptp, plain_slo, nb_agg, nb_int, nb_bool, nb_str, nb_slp, nb_nils, nb_sle, nb_slo, cells_agg, cells_int, cells_bool, cells_str, List.length_cons, List.length_nil, List.length_append, List.take_succ_cons, List.take_zero, List.drop_succ_cons, List.drop_zero, List.cons_append, List.nil_append, List.append_nil, List.drop_nil, List.take_nil, List.getElem?_cons_zero, List.getElem?_cons_succ, List.set_cons_zero, List.set_cons_succ, Nat.reduceAdd, Nat.reduceMul, Nat.reduceSub, Nat.reduceLeDiff, Nat.reduceEqDiff, Nat.reduceLT, Nat.zero_add, Nat.add_zero, decide_true, decide_false, Bool.and_true, Bool.true_and, Bool.and_false, Bool.false_and, Bool.not_true, Bool.not_false, Nat.le_refl, reduceIte, kLaw_0_eq, kLaw_1_eq, kLaw_2_eq, kLaw_3_eq, kLaw_4_eq, kLaw_5_eq, kLaw_6_eq, kLaw_7_eq, kLaw_8_eq, kLaw_9_eq, kLaw_10_eq, kLaw_11_eq, kLaw_12_eq, kLaw_13_eq, kLaw_14_eq, kLaw_15_eq, kLaw_16_eq, kLaw_17_eq, kLaw_18_eq, kLaw_19_eq, kLaw_20_eq, kLaw_21_eq, kLaw_22_eq, kLaw_23_eq, kLaw_24_eq, kLaw_25_eq, kLaw_26_eq, kLaw_27_eq, kLaw_28_eq, kLaw_30_eq, kLaw_31_eq, kLaw_32_eq, kLaw_33_eq, kLaw_34_eq, kLaw_35_eq, kLaw_36_eq, kLaw_37_eq, kLaw_38_eq, kLaw_39_eq, kLaw_40_eq, kLaw_41_eq, kLaw_42_eq, kLaw_43_eq, kLaw_44_eq, kLaw_45_eq, kLaw_46_eq, kLaw_47_eq, kLaw_48_eq, kLaw_49_eq, kLaw_50_eq, kLaw_51_eq, kLaw_52_eq, kLaw_53_eq, kLaw_54_eq, kLaw_55_eq, kLaw_56_eq, kLaw_57_eq, kLaw_58_eq, kLaw_59_eq, kLaw_60_eq, kLaw_61_eq, kLaw_62_eq, kLaw_63_eq, kLaw_64_eq, kLaw_65_eq, kLaw_66_eq, kLaw_67_eq, kLaw_68_eq, kLaw_69_eq, kLaw_70_eq, kLaw_71_eq, kLaw_72_eq, kLaw_73_eq, kLaw_74_eq, kLaw_75_eq, kLaw_76_eq, kLaw_77_eq, kLaw_78_eq, kLaw_79_eq, kLaw_80_eq, kLaw_81_eq, kLaw_82_eq, kLaw_83_eq, kLaw_84_eq, kLaw_85_eq, kLaw_86_eq, kLaw_87_eq, kLaw_88_eq, kLaw_89_eq, kLaw_90_eq, kLaw_91_eq, kLaw_92_eq, kLaw_93_eq, kLaw_94_eq, kLaw_95_eq, kLaw_96_eq, kLaw_ret, kLaw_nrm, dd, hdr, w]
    exact e
theorem law_loop3 (mx : Int) {h : AH} {v10 : AV} {F : Nat} {G : List Nat} (hG : SlAt h v10 (numsA G)) (hF : F ≠ 0 → G = []) (v0 v2 v6 v7 v8 v9 v17 v25 v40 v42 v43 v44 v54 v64 : AV) : ∀ (K i f : Nat) (bs : List Nat) (v1 v13 v14 v15 v74 v84 v108 : AV), PureB v1 bs → bs.length < K → bs.length ≤ 1000 → i ≤ 10000 - bs.length → (∀ c ∈ bs, c < 256) → K + 24 ≤ f → F = (decs K bs).1 → (F = 0 → G.drop i = (decs K bs).2) →
    (∃ s, (rl (CL mx) f).lp (kLaw_81 (CL mx)) ⟨kLaw_T v0 v1 v2 v6 v7 v8 v9 v10 (.int 9223372036854775807 (F : Int)) (.int 9223372036854775807 (i : Int)) v13 v14 v15 v17 v25 v40 v42 v43 v44 v54 v64 v74 v84 v108, h⟩ = some (.ret, s) ∧ endA (CL mx) [.tmp 6] (.ret, s) = some (.bool true, s.h)) ∨
    (F = 0 ∧ ∃ u1 u12 u13 u14 u15 u74 u84 u108, (rl (CL mx) f).lp (kLaw_81 (CL mx)) ⟨kLaw_T v0 v1 v2 v6 v7 v8 v9 v10 (.int 9223372036854775807 (F : Int)) (.int 9223372036854775807 (i : Int)) v13 v14 v15 v17 v25 v40 v42 v43 v44 v54 v64 v74 v84 v108, h⟩ = some (.exit 2, ⟨kLaw_T v0 u1 v2 v6 v7 v8 v9 v10 (.int 9223372036854775807 (F : Int)) u12 u13 u14 u15 v17 v25 v40 v42 v43 v44 v54 v64 u74 u84 u108, h⟩)) := by
  have hlenG := fun h' κ => hG.lenS h' κ
  rw [numsA_len] at hlenG
  intro K
  induction K with
  | zero => intro i f bs v1 v13 v14 v15 v74 v84 v108 _ hk; omega
  | succ K ih =>
    intro i f bs v1 v13 v14 v15 v74 v84 v108 hp hk hb1 hi hc hf hFe hGe
    obtain ⟨f, rfl⟩ : ∃ g, f = g + 1 := ⟨f - 1, by omega⟩
    obtain ⟨f, rfl⟩ : ∃ g, f = g + 1 := ⟨f - 1, by omega⟩
    obtain ⟨hd, hl0⟩ := hp.at h
    have hlen := fun h' κ => hd.lenS h' κ
    rw [bytesA_len] at hlen
    by_cases hz : bs = []
    · right
      have hdz : decs (K + 1) bs = (0, []) := by unfold decs; rw [if_pos hz]
      rw [hdz] at hFe
      refine ⟨hFe, v1, .int 9223372036854775807 (i : Int), v13, v14, v15, .bool false, v84, v108, ?_⟩
      have d0 : decide ((0 : Int) < (bs.length : Int)) = false := by rw [hz]; rfl
      rw [rl_lp]
      simp only [guardC_b, guardC_u, beqB_tt, beqB_tf, beqB_ft, beqB_ff, min_eq, max_eq, vhO_kVH, ckN_eq, ckE_eq, List.length_set, ckX_same, bldS_int2, lt_agg, lt_tup, lt_int, lt_bool, lt_str, lt_nils, lt_sle, lt_nil, lt_slp, lt_ptp, kNrm_st, obindS, obindN, kThen_nrm, kThen_ret, kThen_exit, kOut_nrm, kOut_ret, kOut_exit, kIf_b, bqT, bqF, moveA_eq, pickA_eq, boxA_eq, newA_eq, cmp_eq, arith_eq, remA_eq, quoA_eq, notA_eq, negA_eq, cvI_eq, moveP_o, moveP_p, blkC_cells, load1_o, load1_p, loadG_o, loadG_p, store1_o, storeG_o, lenS_nils, lenS_sle, lenS_p, lenS_o, lenT_eq, idxS_p, idxS_o, idxT_eq, idxA_o, idxV1_eq, fld1_eq, fldG_eq, extA_eq, nilCk_o, nilCk_p, strAdd_eq, strCmp_eq, withX_some, withX_none, iaddE, isubE, imulE, iltE, igtE, ileE, igeE, ineE, ibeqE, hget_top, hget_zero, hget_succ, set_top, plains_nil, plains_cons, plain_int, plain_bool, plain_str, plain_nils, plain_slp, plain_sle, plain_nil, plain_pto, plain_ptp, plain_slo, nb_agg, nb_int, nb_bool, nb_str, nb_slp, nb_nils, nb_sle, nb_slo, cells_agg, cells_int, cells_bool, cells_str, List.length_cons, List.length_nil, List.length_append, List.take_succ_cons, List.take_zero, List.drop_succ_cons, List.drop_zero, List.cons_append, List.nil_append, List.append_nil, List.drop_nil, List.take_nil, List.getElem?_cons_zero, List.getElem?_cons_succ, List.set_cons_zero, List.set_cons_succ, Nat.reduceAdd, Nat.reduceMul, Nat.reduceSub, Nat.reduceLeDiff, Nat.reduceEqDiff, Nat.reduceLT, Nat.zero_add, Nat.add_zero, decide_true, decide_false, Bool.and_true, Bool.true_and, Bool.and_false, Bool.false_and, Bool.not_true, Bool.not_false, Nat.le_refl, reduceIte, kLaw_0_eq, kLaw_1_eq, kLaw_2_eq, kLaw_3_eq, kLaw_4_eq, kLaw_5_eq, kLaw_6_eq, kLaw_7_eq, kLaw_8_eq, kLaw_9_eq, kLaw_10_eq, kLaw_11_eq, kLaw_12_eq, kLaw_13_eq, kLaw_14_eq, kLaw_15_eq, kLaw_16_eq, kLaw_17_eq, kLaw_18_eq, kLaw_19_eq, kLaw_20_eq, kLaw_21_eq, kLaw_22_eq, kLaw_23_eq, kLaw_24_eq, kLaw_25_eq, kLaw_26_eq, kLaw_27_eq, kLaw_28_eq, kLaw_30_eq, kLaw_31_eq, kLaw_32_eq, kLaw_33_eq, kLaw_34_eq, kLaw_35_eq, kLaw_36_eq, kLaw_37_eq, kLaw_38_eq, kLaw_39_eq, kLaw_40_eq, kLaw_41_eq, kLaw_42_eq, kLaw_43_eq, kLaw_44_eq, kLaw_45_eq, kLaw_46_eq, kLaw_47_eq, kLaw_48_eq, kLaw_49_eq, kLaw_50_eq, kLaw_51_eq, kLaw_52_eq, kLaw_53_eq, kLaw_54_eq, kLaw_55_eq, kLaw_56_eq, kLaw_57_eq, kLaw_58_eq, kLaw_59_eq, kLaw_60_eq, kLaw_61_eq, kLaw_62_eq, kLaw_63_eq, kLaw_64_eq, kLaw_65_eq, kLaw_66_eq, kLaw_67_eq, kLaw_68_eq, kLaw_69_eq, kLaw_70_eq, kLaw_71_eq, kLaw_72_eq, kLaw_73_eq, kLaw_74_eq, kLaw_75_eq, kLaw_76_eq, kLaw_77_eq, kLaw_78_eq, kLaw_79_eq, kLaw_80_eq, kLaw_81_eq, kLaw_82_eq, kLaw_83_eq, kLaw_84_eq, kLaw_85_eq, kLaw_86_eq, kLaw_87_eq, kLaw_88_eq, kLaw_89_eq, kLaw_90_eq, kLaw_91_eq, kLaw_92_eq, kLaw_93_eq, kLaw_94_eq, kLaw_95_eq, kLaw_96_eq, kLaw_ret, kLaw_nrm, hlen, d0]
    · have d0 : decide ((0 : Int) < (bs.length : Int)) = true := by
        rw [decide_eq_true_iff]
        have := List.length_pos_iff.2 hz
        omega
      have hrun := ref_run mx f (by omega) (hp.at []).1 (by omega) hc
      have hread := fun h => callA_pure (C := CL mx) (run := (rl (CL mx) (f + 1)).run) (h := h) (by kernel_rfl) (by show and (v1.lt 0) true = true; rw [hl0]; rfl) (by kernel_rfl) hrun (by rfl)
      by_cases hcode : (dec 0 0 bs).1 = 0
      · have hres : decs (K + 1) bs = ((decs K (bs.drop (dec 0 0 bs).2.2)).1, (dec 0 0 bs).2.1 :: (decs K (bs.drop (dec 0 0 bs).2.2)).2) := by
          conv => lhs; unfold decs
          rw [if_neg hz, if_neg (by simp [hcode])]
        rw [hres] at hFe hGe
        obtain ⟨m1, m2⟩ := dec_many _ _ _ hcode
        rw [hcode] at hread
        generalize hN : (dec 0 0 bs).2.2 = N at *
        generalize hX : (dec 0 0 bs).2.1 = X at *
        have n0 : decide (((0 : Nat) : Int) ≠ 0) = false := by decide
        have hcut := fun k h κ => hp.cut hz (n := N) (by omega) k h κ
        have w : wrapA 9223372036854775807 ((i : Int) + 1) = ((i + 1 : Nat) : Int) := by rw [wrapA_i64 (by omega) (by omega)]; push_cast; rfl
        have hrec := ih (i + 1) (f + 1) (bs.drop N) (.slp (bytesA (bs.drop N)) (bs.drop N).length) (.int 18446744073709551615 (X : Int)) (.int 9223372036854775807 (N : Int)) (.int 9223372036854775807 ((0 : Nat) : Int)) (.bool true) (.bool false) (.bool false) (.inr rfl) (by rw [List.length_drop]; omega) (by rw [List.length_drop]; omega) (by rw [List.length_drop]; omega) (fun c hc' => hc c (List.mem_of_mem_drop hc')) (by omega) hFe (fun e => by
          have := hGe e
          rw [← List.drop_drop, this]; rfl)
        have key : (rl (CL mx) (f + 1 + 1)).lp (kLaw_81 (CL mx)) ⟨kLaw_T v0 v1 v2 v6 v7 v8 v9 v10 (.int 9223372036854775807 (F : Int)) (.int 9223372036854775807 (i : Int)) v13 v14 v15 v17 v25 v40 v42 v43 v44 v54 v64 v74 v84 v108, h⟩ =
            (rl (CL mx) (f + 1)).lp (kLaw_81 (CL mx)) ⟨kLaw_T v0 (.slp (bytesA (bs.drop N)) (bs.drop N).length) v2 v6 v7 v8 v9 v10 (.int 9223372036854775807 (F : Int)) (.int 9223372036854775807 ((i + 1 : Nat) : Int)) (.int 18446744073709551615 (X : Int)) (.int 9223372036854775807 (N : Int)) (.int 9223372036854775807 ((0 : Nat) : Int)) v17 v25 v40 v42 v43 v44 v54 v64 (.bool true) (.bool false) (.bool false), h⟩ := by
          by_cases hF0 : F = 0
          · have hg := hGe hF0
            have hgi : G[i]? = some X := by
              have := congrArg (·[0]?) hg
              simpa using this
            have hgl := (List.getElem?_eq_some_iff.1 hgi).1
            obtain ⟨q, q1, q2, q3⟩ := hG.idx (i := i) (c := .int 18446744073709551615 (X : Int)) (by unfold numsA; rw [List.getElem?_map, hgi]; rfl)
            have f0 : decide ((F : Int) = 0) = true := by rw [decide_eq_true_iff]; omega
            have g0 : decide ((G.length : Int) ≤ (i : Int)) = false := by rw [decide_eq_false_iff_not]; omega
            have hne : decide ((X : Int) ≠ (X : Int)) = false := by simp
            rw [rl_lp]
            simp only [guardC_b, guardC_u, beqB_tt, beqB_tf, beqB_ft, beqB_ff, min_eq, max_eq, vhO_kVH, ckN_eq, ckE_eq, List.length_set, ckX_same, bldS_int2, lt_agg, lt_tup, lt_int, lt_bool, lt_str, lt_nils, lt_sle, lt_nil, lt_slp, lt_ptp, kNrm_st, obindS, obindN, kThen_nrm, kThen_ret, kThen_exit, kOut_nrm, kOut_ret, kOut_exit, kIf_b, bqT, bqF, moveA_eq, pickA_eq, boxA_eq, newA_eq, cmp_eq, arith_eq, remA_eq, quoA_eq, notA_eq, negA_eq, cvI_eq, moveP_o, moveP_p, blkC_cells, load1_o, load1_p, loadG_o, loadG_p, store1_o, storeG_o, lenS_nils, lenS_sle, lenS_p, lenS_o, lenT_eq, idxS_p, idxS_o, idxT_eq, idxA_o, idxV1_eq, fld1_eq, fldG_eq, extA_eq, nilCk_o, nilCk_p, strAdd_eq, strCmp_eq, withX_some, withX_none, iaddE, isubE, imulE, iltE, igtE, ileE, igeE, ineE, ibeqE, hget_top, hget_zero, hget_succ, set_top, plains_nil, plains_cons, plain_int, plain_bool, plain_str, plain_nils, plain_slp, plain_sle, plain_nil, plain_pto, plain_ptp, plain_slo, nb_agg, nb_int, nb_bool, nb_str, nb_slp, nb_nils, nb_sle, nb_slo, cells_agg, cells_int, cells_bool, cells_str, List.length_cons, List.length_nil, List.length_append, List.take_succ_cons, List.take_zero, List.drop_succ_cons, List.drop_zero, List.cons_append, List.nil_append, List.append_nil, List.drop_nil, List.take_nil, List.getElem?_cons_zero, List.getElem?_cons_succ, List.set_cons_zero, List.set_cons_succ, Nat.reduceAdd, Nat.reduceMul, Nat.reduceSub, Nat.reduceLeDiff, Nat.reduceEqDiff, Nat.reduceLT, Nat.zero_add, Nat.add_zero, decide_true, decide_false, Bool.and_true, Bool.true_and, Bool.and_false, Bool.false_and, Bool.not_true, Bool.not_false, Nat.le_refl, reduceIte, kLaw_0_eq, kLaw_1_eq, kLaw_2_eq, kLaw_3_eq, kLaw_4_eq, kLaw_5_eq, kLaw_6_eq, kLaw_7_eq, kLaw_8_eq, kLaw_9_eq, kLaw_10_eq, kLaw_11_eq, kLaw_12_eq, kLaw_13_eq, kLaw_14_eq, kLaw_15_eq, kLaw_16_eq, kLaw_17_eq, kLaw_18_eq, kLaw_19_eq, kLaw_20_eq, kLaw_21_eq, kLaw_22_eq, kLaw_23_eq, kLaw_24_eq, kLaw_25_eq, kLaw_26_eq, kLaw_27_eq, kLaw_28_eq, kLaw_30_eq, kLaw_31_eq, kLaw_32_eq, kLaw_33_eq, kLaw_34_eq, kLaw_35_eq, kLaw_36_eq, kLaw_37_eq, kLaw_38_eq, kLaw_39_eq, kLaw_40_eq, kLaw_41_eq, kLaw_42_eq, kLaw_43_eq, kLaw_44_eq, kLaw_45_eq, kLaw_46_eq, kLaw_47_eq, kLaw_48_eq, kLaw_49_eq, kLaw_50_eq, kLaw_51_eq, kLaw_52_eq, kLaw_53_eq, kLaw_54_eq, kLaw_55_eq, kLaw_56_eq, kLaw_57_eq, kLaw_58_eq, kLaw_59_eq, kLaw_60_eq, kLaw_61_eq, kLaw_62_eq, kLaw_63_eq, kLaw_64_eq, kLaw_65_eq, kLaw_66_eq, kLaw_67_eq, kLaw_68_eq, kLaw_69_eq, kLaw_70_eq, kLaw_71_eq, kLaw_72_eq, kLaw_73_eq, kLaw_74_eq, kLaw_75_eq, kLaw_76_eq, kLaw_77_eq, kLaw_78_eq, kLaw_79_eq, kLaw_80_eq, kLaw_81_eq, kLaw_82_eq, kLaw_83_eq, kLaw_84_eq, kLaw_85_eq, kLaw_86_eq, kLaw_87_eq, kLaw_88_eq, kLaw_89_eq, kLaw_90_eq, kLaw_91_eq, kLaw_92_eq, kLaw_93_eq, kLaw_94_eq, kLaw_95_eq, kLaw_96_eq, kLaw_ret, kLaw_nrm, hlen, d0, hread, n0, f0, hlenG, g0, q2, q3, hne, hcut, w]
          · have f0 : decide ((F : Int) = 0) = false := by rw [decide_eq_false_iff_not]; omega
            rw [rl_lp]
            simp only [guardC_b, guardC_u, beqB_tt, beqB_tf, beqB_ft, beqB_ff, min_eq, max_eq, vhO_kVH, ckN_eq, ckE_eq, List.length_set, ckX_same, bldS_int2, lt_agg, lt_tup, lt_int, lt_bool, lt_str, lt_nils, lt_sle, lt_nil, lt_slp, lt_ptp, kNrm_st, obindS, obindN, kThen_nrm, kThen_ret, kThen_exit, kOut_nrm, kOut_ret, kOut_exit, kIf_b, bqT, bqF, moveA_eq, pickA_eq, boxA_eq, newA_eq, cmp_eq, arith_eq, remA_eq, quoA_eq, notA_eq, negA_eq, cvI_eq, moveP_o, moveP_p, blkC_cells, load1_o, load1_p, loadG_o, loadG_p, store1_o, storeG_o, lenS_nils, lenS_sle, lenS_p, lenS_o, lenT_eq, idxS_p, idxS_o, idxT_eq, idxA_o, idxV1_eq, fld1_eq, fldG_eq, extA_eq, nilCk_o, nilCk_p, strAdd_eq, strCmp_eq, withX_some, withX_none, iaddE, isubE, imulE, iltE, igtE, ileE, igeE, ineE, ibeqE, hget_top, hget_zero, hget_succ, set_top, plains_nil, plains_cons, plain_int, plain_bool, plain_str, plain_nils, plain_slp, plain_sle, plain_nil, plain_pto, plain_ptp, plain_slo, nb_agg, nb_int, nb_bool, nb_str, nb_slp, nb_nils, nb_sle, nb_slo, cells_agg, cells_int, cells_bool, cells_str, List.length_cons, List.length_nil, List.length_append, List.take_succ_cons, List.take_zero, List.drop_succ_cons, List.drop_zero, List.cons_append, List.nil_append, List.append_nil, List.drop_nil, List.take_nil, List.getElem?_cons_zero, List.getElem?_cons_succ, List.set_cons_zero, List.set_cons_succ, Nat.reduceAdd, Nat.reduceMul, Nat.reduceSub, Nat.reduceLeDiff, Nat.reduceEqDiff, Nat.reduceLT, Nat.zero_add, Nat.add_zero, decide_true, decide_false, Bool.and_true, Bool.true_and, Bool.and_false, Bool.false_and, Bool.not_true, Bool.not_false, Nat.le_refl, reduceIte, kLaw_0_eq, kLaw_1_eq, kLaw_2_eq, kLaw_3_eq, kLaw_4_eq, kLaw_5_eq, kLaw_6_eq, kLaw_7_eq, kLaw_8_eq, kLaw_9_eq, kLaw_10_eq, kLaw_11_eq, kLaw_12_eq, kLaw_13_eq, kLaw_14_eq, kLaw_15_eq, kLaw_16_eq, kLaw_17_eq, kLaw_18_eq, kLaw_19_eq, kLaw_20_eq, kLaw_21_eq, kLaw_22_eq, kLaw_23_eq, kLaw_24_eq, kLaw_25_eq, kLaw_26_eq, kLaw_27_eq, kLaw_28_eq, kLaw_30_eq, kLaw_31_eq, kLaw_32_eq, kLaw_33_eq, kLaw_34_eq, kLaw_35_eq, kLaw_36_eq, kLaw_37_eq, kLaw_38_eq, kLaw_39_eq, kLaw_40_eq, kLaw_41_eq, kLaw_42_eq, kLaw_43_eq, kLaw_44_eq, kLaw_45_eq, kLaw_46_eq, kLaw_47_eq, kLaw_48_eq, kLaw_49_eq, kLaw_50_eq, kLaw_51_eq, kLaw_52_eq, kLaw_53_eq, kLaw_54_eq, kLaw_55_eq, kLaw_56_eq, kLaw_57_eq, kLaw_58_eq, kLaw_59_eq, kLaw_60_eq, kLaw_61_eq, kLaw_62_eq, kLaw_63_eq, kLaw_64_eq, kLaw_65_eq, kLaw_66_eq, kLaw_67_eq, kLaw_68_eq, kLaw_69_eq, kLaw_70_eq, kLaw_71_eq, kLaw_72_eq, kLaw_73_eq, kLaw_74_eq, kLaw_75_eq, kLaw_76_eq, kLaw_77_eq, kLaw_78_eq, kLaw_79_eq, kLaw_80_eq, kLaw_81_eq, kLaw_82_eq, kLaw_83_eq, kLaw_84_eq, kLaw_85_eq, kLaw_86_eq, kLaw_87_eq, kLaw_88_eq, kLaw_89_eq, kLaw_90_eq, kLaw_91_eq, kLaw_92_eq, kLaw_93_eq, kLaw_94_eq, kLaw_95_eq, kLaw_96_eq, kLaw_ret, kLaw_nrm, hlen, d0, hread, n0, f0, hcut, w]
        rw [key]
        exact hrec
      · left
        have hres : decs (K + 1) bs = ((dec 0 0 bs).1, []) := by
          conv => lhs; unfold decs
          rw [if_neg hz, if_pos hcode]
        rw [hres] at hFe
        have hFe : F = (dec 0 0 bs).1 := hFe
        have nc : decide (((dec 0 0 bs).1 : Int) ≠ 0) = true := by rw [decide_eq_true_iff]; omega
        have fe : decide ((F : Int) = ((dec 0 0 bs).1 : Int)) = true := by rw [decide_eq_true_iff]; omega
        have gl : decide ((G.length : Int) = 0) = true := by rw [hF (by omega)]; rfl
        apply Exists.intro
        refine ⟨?_, ?_⟩
        · rw [rl_lp]
          simp only [guardC_b, guardC_u, beqB_tt, beqB_tf, beqB_ft, beqB_ff, min_eq, max_eq, vhO_kVH, ckN_eq, ckE_eq, List.length_set, ckX_same, bldS_int2, lt_agg, lt_tup, lt_int, lt_bool, lt_str, lt_nils, lt_sle, lt_nil, lt_slp, lt_ptp, kNrm_st, obindS, obindN, kThen_nrm, kThen_ret, kThen_exit, kOut_nrm, kOut_ret, kOut_exit, kIf_b, bqT, bqF, moveA_eq, pickA_eq, boxA_eq, newA_eq, cmp_eq, arith_eq, remA_eq, quoA_eq, notA_eq, negA_eq, cvI_eq, moveP_o, moveP_p, blkC_cells, load1_o, load1_p, loadG_o, loadG_p, store1_o, storeG_o, lenS_nils, lenS_sle, lenS_p, lenS_o, lenT_eq, idxS_p, idxS_o, idxT_eq, idxA_o, idxV1_eq, fld1_eq, fldG_eq, extA_eq, nilCk_o, nilCk_p, strAdd_eq, strCmp_eq, withX_some, withX_none, iaddE, isubE, imulE, iltE, igtE, ileE, igeE, ineE, ibeqE, hget_top, hget_zero, hget_succ, set_top, plains_nil, plains_cons, plain_int, plain_bool, plain_str, plain_nils, plain_slp, plain_sle, plain_nil, plain_pto, plain_ptp, plain_slo, nb_agg, nb_int, nb_bool, nb_str, nb_slp, nb_nils, nb_sle, nb_slo, cells_agg, cells_int, cells_bool, cells_str, List.length_cons, List.length_nil, List.length_append, List.take_succ_cons, List.take_zero, List.drop_succ_cons, List.drop_zero, List.cons_append, List.nil_append, List.append_nil, List.drop_nil, List.take_nil, List.getElem?_cons_zero, List.getElem?_cons_succ, List.set_cons_zero, List.set_cons_succ, Nat.reduceAdd, Nat.reduceMul, Nat.reduceSub, Nat.reduceLeDiff, Nat.reduceEqDiff, Nat.reduceLT, Nat.zero_add, Nat.add_zero, decide_true, decide_false, Bool.and_true, Bool.true_and, Bool.and_false, Bool.false_and, Bool.not_true, Bool.not_false, Nat.le_refl, reduceIte, kLaw_0_eq, kLaw_1_eq, kLaw_2_eq, kLaw_3_eq, kLaw_4_eq, kLaw_5_eq, kLaw_6_eq, kLaw_7_eq, kLaw_8_eq, kLaw_9_eq, kLaw_10_eq, kLaw_11_eq, kLaw_12_eq, kLaw_13_eq, kLaw_14_eq, kLaw_15_eq, kLaw_16_eq, kLaw_17_eq, kLaw_18_eq, kLaw_19_eq, kLaw_20_eq, kLaw_21_eq, kLaw_22_eq, kLaw_23_eq, kLaw_24_eq, kLaw_25_eq, kLaw_26_eq, kLaw_27_eq, kLaw_28_eq, kLaw_30_eq, kLaw_31_eq, kLaw_32_eq, kLaw_33_eq, kLaw_34_eq, kLaw_35_eq, kLaw_36_eq, kLaw_37_eq, kLaw_38_eq, kLaw_39_eq, kLaw_40_eq, kLaw_41_eq, kLaw_42_eq, kLaw_43_eq, kLaw_44_eq, kLaw_45_eq, kLaw_46_eq, kLaw_47_eq, kLaw_48_eq, kLaw_49_eq, kLaw_50_eq, kLaw_51_eq, kLaw_52_eq, kLaw_53_eq, kLaw_54_eq, kLaw_55_eq, kLaw_56_eq, kLaw_57_eq, kLaw_58_eq, kLaw_59_eq, kLaw_60_eq, kLaw_61_eq, kLaw_62_eq, kLaw_63_eq, kLaw_64_eq, kLaw_65_eq, kLaw_66_eq, kLaw_67_eq, kLaw_68_eq, kLaw_69_eq, kLaw_70_eq, kLaw_71_eq, kLaw_72_eq, kLaw_73_eq, kLaw_74_eq, kLaw_75_eq, kLaw_76_eq, kLaw_77_eq, kLaw_78_eq, kLaw_79_eq, kLaw_80_eq, kLaw_81_eq, kLaw_82_eq, kLaw_83_eq, kLaw_84_eq, kLaw_85_eq, kLaw_86_eq, kLaw_87_eq, kLaw_88_eq, kLaw_89_eq, kLaw_90_eq, kLaw_91_eq, kLaw_92_eq, kLaw_93_eq, kLaw_94_eq, kLaw_95_eq, kLaw_96_eq, kLaw_ret, kLaw_nrm, hlen, d0, hread, nc, fe, hlenG, gl]
          rfl
        · exact kLaw_ret ..
theorem pak_call (mx : Int) {L : List Nat} {lv : AV} (hL : SlAt [] lv (numsA L)) (hp : lv.lt 0 = true) (hx : ∀ x ∈ L, x ≤ 18446744073709551615) (hlen : L.length ≤ 100) (f : Nat) (hf : 130 ≤ f) (h : AH) :
    ∃ r h', callA (CL mx) (rl (CL mx) (f + 1)).run 6 [.int 9223372036854775807 1, lv] h = some (r, h') ∧ ∃ d, r = .agg [.int 9223372036854775807 1, .int 9223372036854775807 2, .int 18446744073709551615 0, d] ∧ SlAt h' d (bytesA (L.flatMap (enc 9))) := by
  obtain ⟨d, h1, e, q⟩ := pak_run mx hL hp hx hlen f hf
  have hpa : ltL 0 [.int 9223372036854775807 1, lv] = true := by show and true (and (lv.lt 0) true) = true; rw [hp]; rfl
  cases hl : (AV.agg [.int 9223372036854775807 1, .int 9223372036854775807 2, .int 18446744073709551615 0, d]).lt 0 with
  | true =>
    refine ⟨_, h, callA_pure (by kernel_rfl) hpa (by kernel_rfl) e hl, d, rfl, ?_⟩
    have hl : and (d.lt 0) true = true := hl
    rw [Bool.and_true] at hl
    exact q.pure hl h
  | false => exact ⟨_, _, callA_imp (by kernel_rfl) hpa (by kernel_rfl) e hl (by kernel_rfl) (by kernel_rfl), _, rfl, q.shift (fun k => upL_bytes k _) h⟩
theorem pkd_call (mx : Int) (f : Nat) {h : AH} {n v d : AV} {bs : List Nat} {T : Int} (hn : n.plain = true) (hv : v.plain = true) (hn0 : n.lt 0 = true) (hv0 : v.lt 0 = true) (hd : SlAt h d (bytesA bs)) (hb : bs.length ≤ 100000) (hc : ∀ c ∈ bs, c < 256) (hf : bs.length + 40 ≤ f) :
    ∃ r h', callA (CL mx) (rl (CL mx) (f + 1)).run 7 [.agg [n, .int 9223372036854775807 T, v, d]] h = some (r, h') ∧ ∃ out, r = .tup [out, .int 9223372036854775807 ((if T = 2 then (decs (bs.length + 1) bs).1 else 213 : Nat) : Int)] ∧ SlAt h' out (numsA (if T = 2 ∧ (decs (bs.length + 1) bs).1 = 0 then (decs (bs.length + 1) bs).2 else [])) ∧ Fr h.length h h' := by
  refine callA_any (Q := fun h r h' => ∃ out, r = .tup [out, .int 9223372036854775807 ((if T = 2 then (decs (bs.length + 1) bs).1 else 213 : Nat) : Int)] ∧ SlAt h' out (numsA (if T = 2 ∧ (decs (bs.length + 1) bs).1 = 0 then (decs (bs.length + 1) bs).2 else [])) ∧ Fr h.length h h')
    (by kernel_rfl) (fun _ => by kernel_rfl) (by kernel_rfl) (by kernel_rfl) (fun h0 hh => ?_) (fun r h1 ⟨out, hr, q, _⟩ => ?_) (fun r h1 ⟨out, hr, q, _⟩ hl => ?_)
  · have hr0 : SlAt h0 d (bytesA bs) := by
      rcases hh with rfl | ⟨rfl, hp⟩
      · exact hd
      · have hp : and (and (n.lt 0) (and true (and (v.lt 0) (and (d.lt 0) true)))) true = true := hp
        rw [hn0, hv0, Bool.true_and, Bool.true_and, Bool.true_and, Bool.and_true, Bool.and_true] at hp
        exact hd.pure hp []
    obtain ⟨out, h1, e1, e2, e3⟩ := pkd_run mx f (T := T) rfl hn hv hr0 hb hc hf
    exact ⟨_, _, e1, out, rfl, e2, e3⟩
  · subst hr
    exact ⟨out.up h.length, rfl, q.shift (fun k => upL_nums k _) h, Fr.shift h h1⟩
  · subst hr
    have hl : and (out.lt 0) true = true := hl
    rw [Bool.and_true] at hl
    exact ⟨out, rfl, q.pure hl h, Fr.refl _ _⟩
theorem law_run (mx : Int) {v0 v1 : AV} {L bs : List Nat} (h0 : ∀ h, SlAt h v0 (numsA L)) (p0 : v0.lt 0 = true) (hL : ∀ x ∈ L, x ≤ 18446744073709551615) (hLm : L.length ≤ maxLen) (h1 : PureB v1 bs) (hbm : bs.length ≤ maxLen) (hc : ∀ c ∈ bs, c < 256) (T : Int) :
    ∃ h', (rl (CL mx) 1403).run 3 [v0, v1, .int 9223372036854775807 T] [] = some (.bool true, h') := by
  rw [rl_run, kLaw_run _ _ _ _ _ _ _ (by kernel_rfl) (kLaw_fk mx)]
  have hhead := fun h => callA_memo (C := CL mx) (run := (rl (CL mx) 1402).run) (h := h) (f := 5) (args := []) (v := .bool true) (by kernel_rfl) (by kernel_rfl) (by kernel_rfl)
  have len0 := fun h' κ => (h0 h').lenS h' κ
  rw [numsA_len] at len0
  have len1 := fun h' κ => (h1.at h').1.lenS h' κ
  rw [bytesA_len] at len1
  by_cases c1 : (100 : Int) < (L.length : Int)
  · apply Exists.intro
    simp only [guardC_b, guardC_u, beqB_tt, beqB_tf, beqB_ft, beqB_ff, min_eq, max_eq, vhO_kVH, ckN_eq, ckE_eq, List.length_set, ckX_same, bldS_int2, lt_agg, lt_tup, lt_int, lt_bool, lt_str, lt_nils, lt_sle, lt_nil, lt_slp, lt_ptp, kNrm_st, obindS, obindN, kThen_nrm, kThen_ret, kThen_exit, kOut_nrm, kOut_ret, kOut_exit, kIf_b, bqT, bqF, moveA_eq, pickA_eq, boxA_eq, newA_eq, cmp_eq, arith_eq, remA_eq, quoA_eq, notA_eq, negA_eq, cvI_eq, moveP_o, moveP_p, blkC_cells, load1_o, load1_p, loadG_o, loadG_p, store1_o, storeG_o, lenS_nils, lenS_sle, lenS_p, lenS_o, lenT_eq, idxS_p, idxS_o, idxT_eq, idxA_o, idxV1_eq, fld1_eq, fldG_eq, extA_eq, nilCk_o, nilCk_p, strAdd_eq, strCmp_eq, withX_some, withX_none, iaddE, isubE, imulE, iltE, igtE, ileE, igeE, ineE, ibeqE, hget_top, hget_zero, hget_succ, set_top, plains_nil, plains_cons, plain_int, plain_bool, plain_str, plain_nils, plain_slp, plain_sle, plain_nil, plain_pto, plain_ptp, plain_slo, nb_agg, nb_int, nb_bool, nb_str, nb_slp, nb_nils, nb_sle, nb_slo, cells_agg, cells_int, cells_bool, cells_str, List.length_cons, List.length_nil, List.length_append, List.take_succ_cons, List.take_zero, List.drop_succ_cons, List.drop_zero, List.cons_append, List.nil_append, List.append_nil, List.drop_nil, List.take_nil, List.getElem?_cons_zero, List.getElem?_cons_succ, List.set_cons_zero, List.set_cons_succ, Nat.reduceAdd, Nat.reduceMul, Nat.reduceSub, Nat.reduceLeDiff, Nat.reduceEqDiff, Nat.reduceLT, Nat.zero_add, Nat.add_zero, decide_true, decide_false, Bool.and_true, Bool.true_and, Bool.and_false, Bool.false_and, Bool.not_true, Bool.not_false, Nat.le_refl, reduceIte, kLaw_0_eq, kLaw_1_eq, kLaw_2_eq, kLaw_3_eq, kLaw_4_eq, kLaw_5_eq, kLaw_6_eq, kLaw_7_eq, kLaw_8_eq, kLaw_9_eq, kLaw_10_eq, kLaw_11_eq, kLaw_12_eq, kLaw_13_eq, kLaw_14_eq, kLaw_15_eq, kLaw_16_eq, kLaw_17_eq, kLaw_18_eq, kLaw_19_eq, kLaw_20_eq, kLaw_21_eq, kLaw_22_eq, kLaw_23_eq, kLaw_24_eq, kLaw_25_eq, kLaw_26_eq, kLaw_27_eq, kLaw_28_eq, kLaw_30_eq, kLaw_31_eq, kLaw_32_eq, kLaw_33_eq, kLaw_34_eq, kLaw_35_eq, kLaw_36_eq, kLaw_37_eq, kLaw_38_eq, kLaw_39_eq, kLaw_40_eq, kLaw_41_eq, kLaw_42_eq, kLaw_43_eq, kLaw_44_eq, kLaw_45_eq, kLaw_46_eq, kLaw_47_eq, kLaw_48_eq, kLaw_49_eq, kLaw_50_eq, kLaw_51_eq, kLaw_52_eq, kLaw_53_eq, kLaw_54_eq, kLaw_55_eq, kLaw_56_eq, kLaw_57_eq, kLaw_58_eq, kLaw_59_eq, kLaw_60_eq, kLaw_61_eq, kLaw_62_eq, kLaw_63_eq, kLaw_64_eq, kLaw_65_eq, kLaw_66_eq, kLaw_67_eq, kLaw_68_eq, kLaw_69_eq, kLaw_70_eq, kLaw_71_eq, kLaw_72_eq, kLaw_73_eq, kLaw_74_eq, kLaw_75_eq, kLaw_76_eq, kLaw_77_eq, kLaw_78_eq, kLaw_79_eq, kLaw_80_eq, kLaw_81_eq, kLaw_82_eq, kLaw_83_eq, kLaw_84_eq, kLaw_85_eq, kLaw_86_eq, kLaw_87_eq, kLaw_88_eq, kLaw_89_eq, kLaw_90_eq, kLaw_91_eq, kLaw_92_eq, kLaw_93_eq, kLaw_94_eq, kLaw_95_eq, kLaw_96_eq, kLaw_ret, kLaw_nrm, hhead, len0, decide_eq_true c1]
    rfl
  by_cases c2 : (200 : Int) < (bs.length : Int)
  · apply Exists.intro
    simp only [guardC_b, guardC_u, beqB_tt, beqB_tf, beqB_ft, beqB_ff, min_eq, max_eq, vhO_kVH, ckN_eq, ckE_eq, List.length_set, ckX_same, bldS_int2, lt_agg, lt_tup, lt_int, lt_bool, lt_str, lt_nils, lt_sle, lt_nil, lt_slp, lt_ptp, kNrm_st, obindS, obindN, kThen_nrm, kThen_ret, kThen_exit, kOut_nrm, kOut_ret, kOut_exit, kIf_b, bqT, bqF, moveA_eq, pickA_eq, boxA_eq, newA_eq, cmp_eq, arith_eq, remA_eq, quoA_eq, notA_eq, negA_eq, cvI_eq, moveP_o, moveP_p, blkC_cells, load1_o, load1_p, loadG_o, loadG_p, store1_o, storeG_o, lenS_nils, lenS_sle, lenS_p, lenS_o, lenT_eq, idxS_p, idxS_o, idxT_eq, idxA_o, idxV1_eq, fld1_eq, fldG_eq, extA_eq, nilCk_o, nilCk_p, strAdd_eq, strCmp_eq, withX_some, withX_none, iaddE, isubE, imulE, iltE, igtE, ileE, igeE, ineE, ibeqE, hget_top, hget_zero, hget_succ, set_top, plains_nil, plains_cons, plain_int, plain_bool, plain_str, plain_nils, plain_slp, plain_sle, plain_nil, plain_pto, plain_ptp, plain_slo, nb_agg, nb_int, nb_bool, nb_str, nb_slp, nb_nils, nb_sle, nb_slo, cells_agg, cells_int, cells_bool, cells_str, List.length_cons, List.length_nil, List.length_append, List.take_succ_cons, List.take_zero, List.drop_succ_cons, List.drop_zero, List.cons_append, List.nil_append, List.append_nil, List.drop_nil, List.take_nil, List.getElem?_cons_zero, List.getElem?_cons_succ, List.set_cons_zero, List.set_cons_succ, Nat.reduceAdd, Nat.reduceMul, Nat.reduceSub, Nat.reduceLeDiff, Nat.reduceEqDiff, Nat.reduceLT, Nat.zero_add, Nat.add_zero, decide_true, decide_false, Bool.and_true, Bool.true_and, Bool.and_false, Bool.false_and, Bool.not_true, Bool.not_false, Nat.le_refl, reduceIte, kLaw_0_eq, kLaw_1_eq, kLaw_2_eq, kLaw_3_eq, kLaw_4_eq, kLaw_5_eq, kLaw_6_eq, kLaw_7_eq, kLaw_8_eq, kLaw_9_eq, kLaw_10_eq, kLaw_11_eq, kLaw_12_eq, kLaw_13_eq, kLaw_14_eq, kLaw_15_eq, kLaw_16_eq, kLaw_17_eq, kLaw_18_eq, kLaw_19_eq, kLaw_20_eq, kLaw_21_eq, kLaw_22_eq, kLaw_23_eq, kLaw_24_eq, kLaw_25_eq, kLaw_26_eq, kLaw_27_eq, kLaw_28_eq, kLaw_30_eq, kLaw_31_eq, kLaw_32_eq, kLaw_33_eq, kLaw_34_eq, kLaw_35_eq, kLaw_36_eq, kLaw_37_eq, kLaw_38_eq, kLaw_39_eq, kLaw_40_eq, kLaw_41_eq, kLaw_42_eq, kLaw_43_eq, kLaw_44_eq, kLaw_45_eq, kLaw_46_eq, kLaw_47_eq, kLaw_48_eq, kLaw_49_eq, kLaw_50_eq, kLaw_51_eq, kLaw_52_eq, kLaw_53_eq, kLaw_54_eq, kLaw_55_eq, kLaw_56_eq, kLaw_57_eq, kLaw_58_eq, kLaw_59_eq, kLaw_60_eq, kLaw_61_eq, kLaw_62_eq, kLaw_63_eq, kLaw_64_eq, kLaw_65_eq, kLaw_66_eq, kLaw_67_eq, kLaw_68_eq, kLaw_69_eq, kLaw_70_eq, kLaw_71_eq, kLaw_72_eq, kLaw_73_eq, kLaw_74_eq, kLaw_75_eq, kLaw_76_eq, kLaw_77_eq, kLaw_78_eq, kLaw_79_eq, kLaw_80_eq, kLaw_81_eq, kLaw_82_eq, kLaw_83_eq, kLaw_84_eq, kLaw_85_eq, kLaw_86_eq, kLaw_87_eq, kLaw_88_eq, kLaw_89_eq, kLaw_90_eq, kLaw_91_eq, kLaw_92_eq, kLaw_93_eq, kLaw_94_eq, kLaw_95_eq, kLaw_96_eq, kLaw_ret, kLaw_nrm, hhead, len0, len1, decide_eq_false c1, decide_eq_true c2]
    rfl
  obtain ⟨a1, a2, a3⟩ := enc_all L hL
  obtain ⟨_, g1, e1, d, rfl, q1⟩ := pak_call mx (h0 []) p0 hL (by omega) 1401 (by omega) []
  obtain ⟨_, g2, e2, out, rfl, q2, q3⟩ := pkd_call mx 1401 (T := 2) (n := .int 9223372036854775807 1) (v := .int 18446744073709551615 0) rfl rfl rfl rfl q1 (by omega) a1 (by omega)
  rw [decs_enc L _ hL (by omega)] at e2 q2
  have e2 : callA (CL mx) (rl (CL mx) 1402).run 7 [.agg [.int 9223372036854775807 1, .int 9223372036854775807 2, .int 18446744073709551615 0, d]] g1 = some (.tup [out, .int 9223372036854775807 0], g2) := e2
  rw [if_pos ⟨rfl, rfl⟩] at q2
  have q2 : SlAt g2 out (numsA L) := q2
  have len2 := fun h' κ => q2.lenS h' κ
  rw [numsA_len] at len2
  obtain ⟨u9, u44, u54, l1⟩ := law_loop1 mx (h0 g2) q2 (by omega) v1 (.int 9223372036854775807 T) (.bool false) (.int 9223372036854775807 0) .bot .bot .bot .bot .bot .bot (.bool false) (.bool false) (.bool false) .bot .bot .bot .bot L.length 0 1402 .bot .bot .bot (by omega) (by omega)
  rw [show ((0 : Nat) : Int) = 0 from rfl] at l1
  have hbld := fun h κ => bldA_of (h := h) (κ := κ) (place := placeOf (CL mx) [(0, 3), (1, 3), (2, 27), (3, 23)]) (z := [.int 9223372036854775807 0, .int 9223372036854775807 0, .int 18446744073709551615 0, .nils]) (ps := [(0, .int 9223372036854775807 1), (1, .int 9223372036854775807 T), (3, v1)])
    (cs := [.int 9223372036854775807 1, .int 9223372036854775807 T, .int 18446744073709551615 0, v1]) (by
      have hh := (h1.at []).1
      show bq (and v1.nb (and (Nat.beq (flen v1.cells) 1) _)) (some (setR [.int 9223372036854775807 1, .int 9223372036854775807 T, .int 18446744073709551615 0, .nils] 3 v1.cells)) none = _
      rw [hh.nb, hh.cells]; rfl)
  obtain ⟨_, g3, e3, out3, rfl, q4, q5⟩ := pkd_call mx 1401 (T := T) (h := g2) (n := .int 9223372036854775807 1) (v := .int 18446744073709551615 0) rfl rfl rfl rfl (h1.at g2).1 (by omega) hc (by omega)
  have len3 := fun h' κ => q4.lenS h' κ
  rw [numsA_len] at len3
  have dL : decide ((L.length : Int) ≠ (L.length : Int)) = false := by simp
  have d00 : decide ((0 : Int) ≠ 0) = false := by decide
  have pre : ∀ k : Kr, True := fun _ => trivial
  by_cases hT : T = 2
  · subst hT
    have dT : decide ((2 : Int) ≠ 2) = false := by decide
    rw [if_pos rfl] at e3
    have hq : (if (2 : Int) = 2 ∧ (decs (bs.length + 1) bs).1 = 0 then (decs (bs.length + 1) bs).2 else []) = (if (decs (bs.length + 1) bs).1 = 0 then (decs (bs.length + 1) bs).2 else []) := by simp
    rw [hq] at q4 len3
    have hl3 := law_loop3 mx (h := g3) (v10 := out3) (F := (decs (bs.length + 1) bs).1) (G := if (decs (bs.length + 1) bs).1 = 0 then (decs (bs.length + 1) bs).2 else []) q4 (fun hne => by rw [if_neg hne]) v0 (.int 9223372036854775807 2) (.bool false) out (.int 9223372036854775807 0) u9 (.bool false) (.bool false) (.bool false) (.int 9223372036854775807 (L.length : Int)) (.int 9223372036854775807 (L.length : Int)) u44 u54 (.bool false) (bs.length + 1) 0 1402 bs v1 .bot .bot .bot .bot .bot .bot h1 (by omega) (by omega) (by omega) hc (by omega) rfl (fun he => by rw [if_pos he, List.drop_zero])
    rw [show ((0 : Nat) : Int) = 0 from rfl] at hl3
    rcases hl3 with ⟨s, l3, l4⟩ | ⟨hF, u1, u12, u13, u14, u15, u74, u84, u108, l3⟩
    · apply Exists.intro
      simp only [guardC_b, guardC_u, beqB_tt, beqB_tf, beqB_ft, beqB_ff, min_eq, max_eq, vhO_kVH, ckN_eq, ckE_eq, List.length_set, ckX_same, bldS_int2, lt_agg, lt_tup, lt_int, lt_bool, lt_str, lt_nils, lt_sle, lt_nil, lt_slp, lt_ptp, kNrm_st, obindS, obindN, kThen_nrm, kThen_ret, kThen_exit, kOut_nrm, kOut_ret, kOut_exit, kIf_b, bqT, bqF, moveA_eq, pickA_eq, boxA_eq, newA_eq, cmp_eq, arith_eq, remA_eq, quoA_eq, notA_eq, negA_eq, cvI_eq, moveP_o, moveP_p, blkC_cells, load1_o, load1_p, loadG_o, loadG_p, store1_o, storeG_o, lenS_nils, lenS_sle, lenS_p, lenS_o, lenT_eq, idxS_p, idxS_o, idxT_eq, idxA_o, idxV1_eq, fld1_eq, fldG_eq, extA_eq, nilCk_o, nilCk_p, strAdd_eq, strCmp_eq, withX_some, withX_none, iaddE, isubE, imulE, iltE, igtE, ileE, igeE, ineE, ibeqE, hget_top, hget_zero, hget_succ, set_top, plains_nil, plains_cons, plain_int, plain_bool, plain_str, plain_nils, plain_slp, plain_sle, plain_nil, plain_pto, plain_ptp, plain_slo, nb_agg, nb_int, nb_bool, nb_str, nb_slp, nb_nils, nb_sle, nb_slo, cells_agg, cells_int, cells_bool, cells_str, List.length_cons, List.length_nil, List.length_append, List.take_succ_cons, List.take_zero, List.drop_succ_cons, List.drop_zero, List.cons_append, List.nil_append, List.append_nil, List.drop_nil, List.take_nil, List.getElem?_cons_zero, List.getElem?_cons_succ, List.set_cons_zero, List.set_cons_succ, Nat.reduceAdd, Nat.reduceMul, Nat.reduceSub, Nat.reduceLeDiff, Nat.reduceEqDiff, Nat.reduceLT, Nat.zero_add, Nat.add_zero, decide_true, decide_false, Bool.and_true, Bool.true_and, Bool.and_false, Bool.false_and, Bool.not_true, Bool.not_false, Nat.le_refl, reduceIte, kLaw_0_eq, kLaw_1_eq, kLaw_2_eq, kLaw_3_eq, kLaw_4_eq, kLaw_5_eq, kLaw_6_eq, kLaw_7_eq, kLaw_8_eq, kLaw_9_eq, kLaw_10_eq, kLaw_11_eq, kLaw_12_eq, kLaw_13_eq, kLaw_14_eq, kLaw_15_eq, kLaw_16_eq, kLaw_17_eq, kLaw_18_eq, kLaw_19_eq, kLaw_20_eq, kLaw_21_eq, kLaw_22_eq, kLaw_23_eq, kLaw_24_eq, kLaw_25_eq, kLaw_26_eq, kLaw_27_eq, kLaw_28_eq, kLaw_30_eq, kLaw_31_eq, kLaw_32_eq, kLaw_33_eq, kLaw_34_eq, kLaw_35_eq, kLaw_36_eq, kLaw_37_eq, kLaw_38_eq, kLaw_39_eq, kLaw_40_eq, kLaw_41_eq, kLaw_42_eq, kLaw_43_eq, kLaw_44_eq, kLaw_45_eq, kLaw_46_eq, kLaw_47_eq, kLaw_48_eq, kLaw_49_eq, kLaw_50_eq, kLaw_51_eq, kLaw_52_eq, kLaw_53_eq, kLaw_54_eq, kLaw_55_eq, kLaw_56_eq, kLaw_57_eq, kLaw_58_eq, kLaw_59_eq, kLaw_60_eq, kLaw_61_eq, kLaw_62_eq, kLaw_63_eq, kLaw_64_eq, kLaw_65_eq, kLaw_66_eq, kLaw_67_eq, kLaw_68_eq, kLaw_69_eq, kLaw_70_eq, kLaw_71_eq, kLaw_72_eq, kLaw_73_eq, kLaw_74_eq, kLaw_75_eq, kLaw_76_eq, kLaw_77_eq, kLaw_78_eq, kLaw_79_eq, kLaw_80_eq, kLaw_81_eq, kLaw_82_eq, kLaw_83_eq, kLaw_84_eq, kLaw_85_eq, kLaw_86_eq, kLaw_87_eq, kLaw_88_eq, kLaw_89_eq, kLaw_90_eq, kLaw_91_eq, kLaw_92_eq, kLaw_93_eq, kLaw_94_eq, kLaw_95_eq, kLaw_96_eq, kLaw_ret, kLaw_nrm, -kLaw_41_eq, -kLaw_81_eq, hhead, len0, len1, len2, decide_eq_false c1, decide_eq_false c2, e1, e2, dL, d00, l1, hbld, e3, dT, l3, l4]
      rfl
    · have dF : decide ((((decs (bs.length + 1) bs).1 : Nat) : Int) = 0) = true := by rw [hF]; rfl
      apply Exists.intro
      simp only [guardC_b, guardC_u, beqB_tt, beqB_tf, beqB_ft, beqB_ff, min_eq, max_eq, vhO_kVH, ckN_eq, ckE_eq, List.length_set, ckX_same, bldS_int2, lt_agg, lt_tup, lt_int, lt_bool, lt_str, lt_nils, lt_sle, lt_nil, lt_slp, lt_ptp, kNrm_st, obindS, obindN, kThen_nrm, kThen_ret, kThen_exit, kOut_nrm, kOut_ret, kOut_exit, kIf_b, bqT, bqF, moveA_eq, pickA_eq, boxA_eq, newA_eq, cmp_eq, arith_eq, remA_eq, quoA_eq, notA_eq, negA_eq, cvI_eq, moveP_o, moveP_p, blkC_cells, load1_o, load1_p, loadG_o, loadG_p, store1_o, storeG_o, lenS_nils, lenS_sle, lenS_p, lenS_o, lenT_eq, idxS_p, idxS_o, idxT_eq, idxA_o, idxV1_eq, fld1_eq, fldG_eq, extA_eq, nilCk_o, nilCk_p, strAdd_eq, strCmp_eq, withX_some, withX_none, iaddE, isubE, imulE, iltE, igtE, ileE, igeE, ineE, ibeqE, hget_top, hget_zero, hget_succ, set_top, plains_nil, plains_cons, plain_int, plain_bool, plain_str, plain_nils, plain_slp, plain_sle, plain_nil, plain_pto, plain_ptp, plain_slo, nb_agg, nb_int, nb_bool, nb_str, nb_slp, nb_nils, nb_sle, nb_slo, cells_agg, cells_int, cells_bool, cells_str, List.length_cons, List.length_nil, List.length_append, List.take_succ_cons, List.take_zero, List.drop_succ_cons, List.drop_zero, List.cons_append, List.nil_append, List.append_nil, List.drop_nil, List.take_nil, List.getElem?_cons_zero, List.getElem?_cons_succ, List.set_cons_zero, List.set_cons_succ, Nat.reduceAdd, Nat.reduceMul, Nat.reduceSub, Nat.reduceLeDiff, Nat.reduceEqDiff, Nat.reduceLT, Nat.zero_add, Nat.add_zero, decide_true, decide_false, Bool.and_true, Bool.true_and, Bool.and_false, Bool.false_and, Bool.not_true, Bool.not_false, Nat.le_refl, reduceIte, kLaw_0_eq, kLaw_1_eq, kLaw_2_eq, kLaw_3_eq, kLaw_4_eq, kLaw_5_eq, kLaw_6_eq, kLaw_7_eq, kLaw_8_eq, kLaw_9_eq, kLaw_10_eq, kLaw_11_eq, kLaw_12_eq, kLaw_13_eq, kLaw_14_eq, kLaw_15_eq, kLaw_16_eq, kLaw_17_eq, kLaw_18_eq, kLaw_19_eq, kLaw_20_eq, kLaw_21_eq, kLaw_22_eq, kLaw_23_eq, kLaw_24_eq, kLaw_25_eq, kLaw_26_eq, kLaw_27_eq, kLaw_28_eq, kLaw_30_eq, kLaw_31_eq, kLaw_32_eq, kLaw_33_eq, kLaw_34_eq, kLaw_35_eq, kLaw_36_eq, kLaw_37_eq, kLaw_38_eq, kLaw_39_eq, kLaw_40_eq, kLaw_41_eq, kLaw_42_eq, kLaw_43_eq, kLaw_44_eq, kLaw_45_eq, kLaw_46_eq, kLaw_47_eq, kLaw_48_eq, kLaw_49_eq, kLaw_50_eq, kLaw_51_eq, kLaw_52_eq, kLaw_53_eq, kLaw_54_eq, kLaw_55_eq, kLaw_56_eq, kLaw_57_eq, kLaw_58_eq, kLaw_59_eq, kLaw_60_eq, kLaw_61_eq, kLaw_62_eq, kLaw_63_eq, kLaw_64_eq, kLaw_65_eq, kLaw_66_eq, kLaw_67_eq, kLaw_68_eq, kLaw_69_eq, kLaw_70_eq, kLaw_71_eq, kLaw_72_eq, kLaw_73_eq, kLaw_74_eq, kLaw_75_eq, kLaw_76_eq, kLaw_77_eq, kLaw_78_eq, kLaw_79_eq, kLaw_80_eq, kLaw_81_eq, kLaw_82_eq, kLaw_83_eq, kLaw_84_eq, kLaw_85_eq, kLaw_86_eq, kLaw_87_eq, kLaw_88_eq, kLaw_89_eq, kLaw_90_eq, kLaw_91_eq, kLaw_92_eq, kLaw_93_eq, kLaw_94_eq, kLaw_95_eq, kLaw_96_eq, kLaw_ret, kLaw_nrm, -kLaw_41_eq, -kLaw_81_eq, hhead, len0, len1, len2, decide_eq_false c1, decide_eq_false c2, e1, e2, dL, d00, l1, hbld, e3, dT, l3, dF]
      rfl
  · have dT : decide (T ≠ 2) = true := by rw [decide_eq_true_iff]; exact hT
    rw [if_neg hT] at e3
    have e3 : callA (CL mx) (rl (CL mx) 1402).run 7 [.agg [.int 9223372036854775807 1, .int 9223372036854775807 T, .int 18446744073709551615 0, v1]] g2 = some (.tup [out3, .int 9223372036854775807 213], g3) := e3
    have len3 := fun h' κ => (show SlAt g3 out3 (numsA []) by rw [if_neg (fun e => hT e.1)] at q4; exact q4).lenS h' κ
    have len3 : ∀ (h' : AH) (κ : Ka), lenS out3 h' κ = κ (.int 9223372036854775807 0) h' := len3
    have d213 : decide ((213 : Int) = 213) = true := by decide
    have dz : decide ((0 : Int) = 0) = true := by decide
    apply Exists.intro
    simp only [guardC_b, guardC_u, beqB_tt, beqB_tf, beqB_ft, beqB_ff, min_eq, max_eq, vhO_kVH, ckN_eq, ckE_eq, List.length_set, ckX_same, bldS_int2, lt_agg, lt_tup, lt_int, lt_bool, lt_str, lt_nils, lt_sle, lt_nil, lt_slp, lt_ptp, kNrm_st, obindS, obindN, kThen_nrm, kThen_ret, kThen_exit, kOut_nrm, kOut_ret, kOut_exit, kIf_b, bqT, bqF, moveA_eq, pickA_eq, boxA_eq, newA_eq, cmp_eq, arith_eq, remA_eq, quoA_eq, notA_eq, negA_eq, cvI_eq, moveP_o, moveP_p, blkC_cells, load1_o, load1_p, loadG_o, loadG_p, store1_o, storeG_o, lenS_nils, lenS_sle, lenS_p, lenS_o, lenT_eq, idxS_p, idxS_o, idxT_eq, idxA_o, idxV1_eq, fld1_eq, fldG_eq, extA_eq, nilCk_o, nilCk_p, strAdd_eq, strCmp_eq, withX_some, withX_none, iaddE, isubE, imulE, iltE, igtE, ileE, igeE, ineE, ibeqE, hget_top, hget_zero, hget_succ, set_top, plains_nil, plains_cons, plain_int, plain_bool, plain_str, plain_nils, plain_slp, plain_sle, plain_nil, plain_pto, plain_ptp, plain_slo, nb_agg, nb_int, nb_bool, nb_str, nb_slp, nb_nils, nb_sle, nb_slo, cells_agg, cells_int, cells_bool, cells_str, List.length_cons, List.length_nil, List.length_append, List.take_succ_cons, List.take_zero, List.drop_succ_cons, List.drop_zero, List.cons_append, List.nil_append, List.append_nil, List.drop_nil, List.take_nil, List.getElem?_cons_zero, List.getElem?_cons_succ, List.set_cons_zero, List.set_cons_succ, Nat.reduceAdd, Nat.reduceMul, Nat.reduceSub, Nat.reduceLeDiff, Nat.reduceEqDiff, Nat.reduceLT, Nat.zero_add, Nat.add_zero, decide_true, decide_false, Bool.and_true, Bool.true_and, Bool.and_false, Bool.false_and, Bool.not_true, Bool.not_false, Nat.le_refl, reduceIte, kLaw_0_eq, kLaw_1_eq, kLaw_2_eq, kLaw_3_eq, kLaw_4_eq, kLaw_5_eq, kLaw_6_eq, kLaw_7_eq, kLaw_8_eq, kLaw_9_eq, kLaw_10_eq, kLaw_11_eq, kLaw_12_eq, kLaw_13_eq, kLaw_14_eq, kLaw_15_eq, kLaw_16_eq, kLaw_17_eq, kLaw_18_eq, kLaw_19_eq, kLaw_20_eq, kLaw_21_eq, kLaw_22_eq, kLaw_23_eq, kLaw_24_eq, kLaw_25_eq, kLaw_26_eq, kLaw_27_eq, kLaw_28_eq, kLaw_30_eq, kLaw_31_eq, kLaw_32_eq, kLaw_33_eq, kLaw_34_eq, kLaw_35_eq, kLaw_36_eq, kLaw_37_eq, kLaw_38_eq, kLaw_39_eq, kLaw_40_eq, kLaw_41_eq, kLaw_42_eq, kLaw_43_eq, kLaw_44_eq, kLaw_45_eq, kLaw_46_eq, kLaw_47_eq, kLaw_48_eq, kLaw_49_eq, kLaw_50_eq, kLaw_51_eq, kLaw_52_eq, kLaw_53_eq, kLaw_54_eq, kLaw_55_eq, kLaw_56_eq, kLaw_57_eq, kLaw_58_eq, kLaw_59_eq, kLaw_60_eq, kLaw_61_eq, kLaw_62_eq, kLaw_63_eq, kLaw_64_eq, kLaw_65_eq, kLaw_66_eq, kLaw_67_eq, kLaw_68_eq, kLaw_69_eq, kLaw_70_eq, kLaw_71_eq, kLaw_72_eq, kLaw_73_eq, kLaw_74_eq, kLaw_75_eq, kLaw_76_eq, kLaw_77_eq, kLaw_78_eq, kLaw_79_eq, kLaw_80_eq, kLaw_81_eq, kLaw_82_eq, kLaw_83_eq, kLaw_84_eq, kLaw_85_eq, kLaw_86_eq, kLaw_87_eq, kLaw_88_eq, kLaw_89_eq, kLaw_90_eq, kLaw_91_eq, kLaw_92_eq, kLaw_93_eq, kLaw_94_eq, kLaw_95_eq, kLaw_96_eq, kLaw_ret, kLaw_nrm, -kLaw_41_eq, -kLaw_81_eq, hhead, len0, len1, len2, decide_eq_false c1, decide_eq_false c2, e1, e2, dL, d00, l1, hbld, e3, dT, len3, d213, dz]
    rfl
/-- Numbers that came in; bytes. -/
theorem nums_open {n : Nat} : ∀ {len : Nat} {cs : List AV}, TyL (TyC Tryz.prog n) (List.replicate len 27) cs → ∃ L : List Nat, cs = numsA L ∧ L.length = len ∧ ∀ x ∈ L, x ≤ 18446744073709551615
  | 0, cs, h => by
    rw [show cs = [] from h]
    exact ⟨[], rfl, rfl, fun _ h => nomatch h⟩
  | len + 1, cs, h => by
    rw [List.replicate_succ] at h
    obtain ⟨a, r, rfl, h1, h2⟩ := h
    obtain ⟨L, rfl, g2, g3⟩ := nums_open h2
    obtain ⟨k, rfl, wk⟩ := TyC.int_ Tryz.underlying27 h1
    obtain ⟨k0, k1⟩ := Go.bounds_u64 wk
    obtain ⟨q, rfl⟩ : ∃ q : Nat, k = (q : Int) := ⟨k.toNat, by omega⟩
    refine ⟨q :: L, rfl, by simp [g2], fun x hx => ?_⟩
    rcases List.mem_cons.1 hx with rfl | hx
    · omega
    · exact g3 x hx
theorem bytes_open {n : Nat} : ∀ {len : Nat} {cs : List AV}, TyL (TyC Tryz.prog n) (List.replicate len 5) cs → ∃ L : List Nat, cs = bytesA L ∧ L.length = len ∧ ∀ x ∈ L, x < 256
  | 0, cs, h => by
    rw [show cs = [] from h]
    exact ⟨[], rfl, rfl, fun _ h => nomatch h⟩
  | len + 1, cs, h => by
    rw [List.replicate_succ] at h
    obtain ⟨a, r, rfl, h1, h2⟩ := h
    obtain ⟨L, rfl, g2, g3⟩ := bytes_open h2
    obtain ⟨k, rfl, wk⟩ := TyC.int_ Tryz.underlying5 h1
    obtain ⟨k0, k1⟩ := Go.bounds_u8 wk
    obtain ⟨q, rfl⟩ : ∃ q : Nat, k = (q : Int) := ⟨k.toNat, by omega⟩
    refine ⟨q :: L, rfl, by simp [g2], fun x hx => ?_⟩
    rcases List.mem_cons.1 hx with rfl | hx
    · omega
    · exact g3 x hx
set_option maxRecDepth 100000 in
theorem ProtoPacks_calls {W : World} {args : Array Value} {a0 a1 a2 : AV} {n0 n1 n2 : Nat} {mx : Int} (I : Inv (C0 mx) (· < W.heap.size) W ρ0 []) (hv : VL (· < W.heap.size) W [a0, a1, a2] ρ0 args.toList)
    (t0 : TyV Tryz.prog n0 22 a0) (t1 : TyV Tryz.prog n1 23 a1) (t2 : TyV Tryz.prog n2 3 a2) : Calls Tryz.prog 3 args W fun e w' => e = .returned (.bool true) ∧ RowKit.Below W.heap.size W w' := by
  obtain ⟨T, rfl, wT⟩ := TyV.int_ Tryz.underlying3 t2
  obtain ⟨L, h0, p0, hL, hLm⟩ : ∃ L : List Nat, (∀ h, SlAt h a0 (numsA L)) ∧ a0.lt 0 = true ∧ (∀ x ∈ L, x ≤ 18446744073709551615) ∧ L.length ≤ maxLen := by
    have t0' : TyC Tryz.prog n0 22 [a0] := by
      unfold TyV at t0
      rw [Tryz.underlying22] at t0
      exact t0
    rcases TyC.slice_ Tryz.underlying22 t0' with e | e | ⟨m, cs, len, e, g1, g2, g3⟩
    · cases e; exact ⟨[], fun h => .inl ⟨rfl, .inl rfl⟩, rfl, (fun _ h => nomatch h), Nat.zero_le _⟩
    · cases e; exact ⟨[], fun h => .inl ⟨rfl, .inr rfl⟩, rfl, (fun _ h => nomatch h), Nat.zero_le _⟩
    · cases e
      obtain ⟨L, rfl, q2, q3⟩ := nums_open g3
      exact ⟨L, fun h => .inr (.inl ⟨numsA L, by rw [numsA_len, q2], by rw [List.take_length]⟩), rfl, q3, by omega⟩
  obtain ⟨bs, h1, hc, hbm⟩ : ∃ bs : List Nat, PureB a1 bs ∧ (∀ c ∈ bs, c < 256) ∧ bs.length ≤ maxLen := by
    have t1' : TyC Tryz.prog n1 23 [a1] := by
      unfold TyV at t1
      rw [Tryz.underlying23] at t1
      exact t1
    rcases TyC.slice_ Tryz.underlying23 t1' with e | e | ⟨m, cs, len, e, g1, g2, g3⟩
    · cases e; exact ⟨[], .inl ⟨rfl, .inl rfl⟩, (fun _ h => nomatch h), Nat.zero_le _⟩
    · cases e; exact ⟨[], .inl ⟨rfl, .inr rfl⟩, (fun _ h => nomatch h), Nat.zero_le _⟩
    · cases e
      obtain ⟨L, rfl, q2, q3⟩ := bytes_open g3
      exact ⟨L, .inr (by rw [q2]), q3, by omega⟩
  obtain ⟨h', e⟩ := law_run mx h0 p0 hL hLm h1 hbm hc T
  exact calls_of_run (runN_ok cl_ok 1403 _ _ _ _ _ e) (I.of_gl (told_gl _ _)) hv
end Go.Proofs.YtgjccdampinbgaaGreatDoor
