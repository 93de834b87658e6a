/- The law CostLimits: its run. The functions' equations are printed by a program. -/
import Derived.Test.YtgkldjllknidkaaGreatDoorMF
import Derived.Test.YtgkldjllknidkaaGreatDoorCo
import Derived.Test.YtgkldjllknidkaaGreatDoorME
namespace Go.Proofs.YtgkldjllknidkaaGreatDoor
set_option linter.unusedSimpArgs false
set_option linter.unusedVariables false
set_option linter.unnecessarySimpa false
noncomputable section
/-- The context in which the head is told ahead. -/
def CL (mx : Int) : Cx := (C0 mx).told (.lf 5 [([], .bool true)])
/- guipure/guipurelaw25.CostLimits -/
def kLaw_T (v0 v1 v4 v5 v6 v7 v9 v15 v26 v47 : AV) : Tm := (.nd 7 (.nd 4 (.nd 1 (.lf 0 v0) (.lf 1 v1)) (.nd 5 (.lf 4 v4) (.nd 6 (.lf 5 v5) (.lf 6 v6)))) (.nd 15 (.nd 9 (.lf 7 v7) (.lf 9 v9)) (.nd 26 (.lf 15 v15) (.nd 47 (.lf 26 v26) (.lf 47 v47)))))
section
variable (C : Cx) (run : Run) (lp : Lp) (s : St) (h : AH) (v0 v1 v4 v5 v6 v7 v9 v15 v26 v47 : AV)
def kLaw_0 (C : Cx) : K := .reg [.mk (o1 moveA (.cst (.bool false)))] [(4, 0)]
theorem kLaw_0_eq : kx C run lp (kLaw_0 C) ⟨kLaw_T v0 v1 v4 v5 v6 v7 v9 v15 v26 v47, h⟩ = kNrm (moveA (.bool false) h (fun a0 h => some (.st (kLaw_T v0 v1 a0 v5 v6 v7 v9 v15 v26 v47) h))) := (rfl)
def kLaw_1 (C : Cx) : K := .reg [.mk (oCallF 5 []), .mk (o1 notA (.st 0))] [(9, 0)]
theorem kLaw_1_eq : kx C run lp (kLaw_1 C) ⟨kLaw_T v0 v1 v4 v5 v6 v7 v9 v15 v26 v47, h⟩ = kNrm (withX (fun a0 h => notA a0 h (fun a1 h => some (.st (kLaw_T v0 v1 v4 v5 v6 v7 a1 v15 v26 v47) h))) (callA C run 5 [] h)) := (rfl)
def kLaw_2 (C : Cx) : K := .reg [.mk (o1 moveA (.cst (.bool false)))] [(4, 0)]
theorem kLaw_2_eq : kx C run lp (kLaw_2 C) ⟨kLaw_T v0 v1 v4 v5 v6 v7 v9 v15 v26 v47, h⟩ = kNrm (moveA (.bool false) h (fun a0 h => some (.st (kLaw_T v0 v1 a0 v5 v6 v7 v9 v15 v26 v47) h))) := (rfl)
def kLaw_3 (_ : Cx) : K := .ex .ret
theorem kLaw_3_eq : kx C run lp (kLaw_3 C) s = some (.ret, s) := (rfl)
def kLaw_4 (C : Cx) : K := .seq (kLaw_2 C) (kLaw_3 C)
theorem kLaw_4_eq : kx C run lp (kLaw_4 C) s = obind (kx C run lp (kLaw_2 C) s) (kThen (kx C run lp (kLaw_3 C))) := (rfl)
def kLaw_5 (_ : Cx) : K := .skip
theorem kLaw_5_eq : kx C run lp (kLaw_5 C) s = some (.nrm, s) := (rfl)
def kLaw_6 (C : Cx) : K := .cond (.tr 9) (kLaw_4 C) (kLaw_5 C)
theorem kLaw_6_eq : kx C run lp (kLaw_6 C) ⟨kLaw_T v0 v1 v4 v5 v6 v7 v9 v15 v26 v47, h⟩ = kIf v9 (kx C run lp (kLaw_4 C)) (kx C run lp (kLaw_5 C)) ⟨kLaw_T v0 v1 v4 v5 v6 v7 v9 v15 v26 v47, h⟩ := (rfl)
def kLaw_7 (C : Cx) : K := .seq (kLaw_1 C) (kLaw_6 C)
theorem kLaw_7_eq : kx C run lp (kLaw_7 C) s = obind (kx C run lp (kLaw_1 C) s) (kThen (kx C run lp (kLaw_6 C))) := (rfl)
def kLaw_8 (C : Cx) : K := .reg [.mk (o1 moveA (.tr 0)), .mk (o2 (cmp igt) (.st 0) (.cst (.int 18446744073709551615 4611686018427387904))), .mk (o1 moveA (.st 0)), .mk (guardA (.st 0) false ((o1 moveA (.tr 1)))), .mk (guardA (.st 1) false ((o2 (cmp igt) (.st 0) (.cst (.int 9223372036854775807 1099511627776))))), .mk (o3 pickA (.st 2) (.cst (.bool true)) (.st 0))] [(15, 0)]
theorem kLaw_8_eq : kx C run lp (kLaw_8 C) ⟨kLaw_T v0 v1 v4 v5 v6 v7 v9 v15 v26 v47, h⟩ = kNrm (moveA v0 h (fun a0 h => cmp igt a0 (.int 18446744073709551615 4611686018427387904) h (fun a1 h => moveA a1 h (fun a2 h => guardC a2 false (fun κ => moveA v1 h (κ)) h (fun a3 h => guardC a2 false (fun κ => cmp igt a3 (.int 9223372036854775807 1099511627776) h (κ)) h (fun a4 h => pickA a2 (.bool true) a4 h (fun a5 h => some (.st (kLaw_T v0 v1 v4 v5 v6 v7 v9 a5 v26 v47) h)))))))) := (rfl)
def kLaw_9 (C : Cx) : K := .reg [.mk (o1 moveA (.cst (.bool true)))] [(4, 0)]
theorem kLaw_9_eq : kx C run lp (kLaw_9 C) ⟨kLaw_T v0 v1 v4 v5 v6 v7 v9 v15 v26 v47, h⟩ = kNrm (moveA (.bool true) h (fun a0 h => some (.st (kLaw_T v0 v1 a0 v5 v6 v7 v9 v15 v26 v47) h))) := (rfl)
def kLaw_10 (_ : Cx) : K := .ex .ret
theorem kLaw_10_eq : kx C run lp (kLaw_10 C) s = some (.ret, s) := (rfl)
def kLaw_11 (C : Cx) : K := .seq (kLaw_9 C) (kLaw_10 C)
theorem kLaw_11_eq : kx C run lp (kLaw_11 C) s = obind (kx C run lp (kLaw_9 C) s) (kThen (kx C run lp (kLaw_10 C))) := (rfl)
def kLaw_12 (_ : Cx) : K := .skip
theorem kLaw_12_eq : kx C run lp (kLaw_12 C) s = some (.nrm, s) := (rfl)
def kLaw_13 (C : Cx) : K := .cond (.tr 15) (kLaw_11 C) (kLaw_12 C)
theorem kLaw_13_eq : kx C run lp (kLaw_13 C) ⟨kLaw_T v0 v1 v4 v5 v6 v7 v9 v15 v26 v47, h⟩ = kIf v15 (kx C run lp (kLaw_11 C)) (kx C run lp (kLaw_12 C)) ⟨kLaw_T v0 v1 v4 v5 v6 v7 v9 v15 v26 v47, h⟩ := (rfl)
def kLaw_14 (C : Cx) : K := .seq (kLaw_8 C) (kLaw_13 C)
theorem kLaw_14_eq : kx C run lp (kLaw_14 C) s = obind (kx C run lp (kLaw_8 C) s) (kThen (kx C run lp (kLaw_13 C))) := (rfl)
def kLaw_15 (C : Cx) : K := .reg [.mk (o1 moveA (.tr 0)), .mk (oBuild (placeOf C [(0, 22), (1, 3), (2, 3)]) [.int 18446744073709551615 0, .int 9223372036854775807 0, .int 9223372036854775807 0] [(0, (.st 0))]), .mk (oAlloc 26 [.int 18446744073709551615 0, .int 9223372036854775807 0, .int 9223372036854775807 0]), .mk (o2 (storeG 3) (.st 0) (.st 1))] [(5, 1)]
theorem kLaw_15_eq : kx C run lp (kLaw_15 C) ⟨kLaw_T v0 v1 v4 v5 v6 v7 v9 v15 v26 v47, h⟩ = kNrm (moveA v0 h (fun a0 h => bldA (placeOf C [(0, 22), (1, 3), (2, 3)]) [.int 18446744073709551615 0, .int 9223372036854775807 0, .int 9223372036854775807 0] [(0, a0)] h (fun a1 h => newA h (.cells [.int 18446744073709551615 0, .int 9223372036854775807 0, .int 9223372036854775807 0] 26) (fun a2 h => storeG 3 a2 a1 h (fun a3 h => some (.st (kLaw_T v0 v1 v4 a2 v6 v7 v9 v15 v26 v47) h)))))) := (rfl)
def kLaw_16 (C : Cx) : K := .draw [⟨.mk (o1 (loadG 3) (.tr 5)), [], false, false⟩, ⟨.mk (o1 moveA (.tr 1)), [], false, false⟩, ⟨.mk (oCallF 6 [(.st 1), (.st 0)]), [], false, true⟩, ⟨.mk (o1 (loadG 3) (.tr 5)), [], false, false⟩, ⟨.mk (o1 moveA (.tr 1)), [], false, false⟩, ⟨.mk (o2 (arith iadd) (.st 0) (.cst (.int 9223372036854775807 1))), [], false, false⟩, ⟨.mk (oCallF 6 [(.st 2), (.st 0)]), [], false, true⟩, ⟨.mk (o1 moveA (.st 4)), [], false, false⟩, ⟨.mk (o1 moveA (.st 1)), [], false, false⟩] [(3, 2), (4, 2), (5, 2)] [(7, 0), (6, 1)]
theorem kLaw_16_dr (r : Ex × St) (e : kNrm (obind (vhO (loadG 3 v5 h (kVH))) (ckX h fun a0 => obind (vhO (moveA v1 h (kVH))) (ckX h fun a1 => obind (vhO (withX (kVH) (callA C run 6 [a0, a1] h))) (ckX h fun a2 => obind (vhO (loadG 3 v5 h (kVH))) (ckX h fun a3 => obind (vhO (moveA v1 h (kVH))) (ckX h fun a4 => obind (vhO (arith iadd a4 (.int 9223372036854775807 1) h (kVH))) (ckX h fun a5 => obind (vhO (withX (kVH) (callA C run 6 [a3, a5] h))) (ckX h fun a6 => obind (vhO (moveA a2 h (kVH))) (ckX h fun a7 => obind (vhO (moveA a6 h (kVH))) (ckX h fun a8 => some (.st (kLaw_T v0 v1 v4 v5 a7 a8 v9 v15 v26 v47) h))))))))))) = some r) : kx C run lp (kLaw_16 C) ⟨kLaw_T v0 v1 v4 v5 v6 v7 v9 v15 v26 v47, h⟩ = some r := kdraw_still (by rfl) (by rfl) e
def kLaw_17 (C : Cx) : K := .reg [.mk (o1 moveA (.tr 1)), .mk (o2 (cmp ilt) (.st 0) (.cst (.int 9223372036854775807 0)))] [(26, 0)]
theorem kLaw_17_eq : kx C run lp (kLaw_17 C) ⟨kLaw_T v0 v1 v4 v5 v6 v7 v9 v15 v26 v47, h⟩ = kNrm (moveA v1 h (fun a0 h => cmp ilt a0 (.int 9223372036854775807 0) h (fun a1 h => some (.st (kLaw_T v0 v1 v4 v5 v6 v7 v9 v15 a1 v47) h)))) := (rfl)
def kLaw_18 (C : Cx) : K := .reg [.mk (o1 moveA (.tr 6)), .mk (o1 moveA (.tr 0)), .mk (o2 (cmp ibeq) (.st 1) (.st 0)), .mk (o1 moveA (.st 0))] [(4, 0)]
theorem kLaw_18_eq : kx C run lp (kLaw_18 C) ⟨kLaw_T v0 v1 v4 v5 v6 v7 v9 v15 v26 v47, h⟩ = kNrm (moveA v6 h (fun a0 h => moveA v0 h (fun a1 h => cmp ibeq a0 a1 h (fun a2 h => moveA a2 h (fun a3 h => some (.st (kLaw_T v0 v1 a3 v5 v6 v7 v9 v15 v26 v47) h)))))) := (rfl)
def kLaw_19 (_ : Cx) : K := .ex .ret
theorem kLaw_19_eq : kx C run lp (kLaw_19 C) s = some (.ret, s) := (rfl)
def kLaw_20 (C : Cx) : K := .seq (kLaw_18 C) (kLaw_19 C)
theorem kLaw_20_eq : kx C run lp (kLaw_20 C) s = obind (kx C run lp (kLaw_18 C) s) (kThen (kx C run lp (kLaw_19 C))) := (rfl)
def kLaw_21 (_ : Cx) : K := .skip
theorem kLaw_21_eq : kx C run lp (kLaw_21 C) s = some (.nrm, s) := (rfl)
def kLaw_22 (C : Cx) : K := .cond (.tr 26) (kLaw_20 C) (kLaw_21 C)
theorem kLaw_22_eq : kx C run lp (kLaw_22 C) ⟨kLaw_T v0 v1 v4 v5 v6 v7 v9 v15 v26 v47, h⟩ = kIf v26 (kx C run lp (kLaw_20 C)) (kx C run lp (kLaw_21 C)) ⟨kLaw_T v0 v1 v4 v5 v6 v7 v9 v15 v26 v47, h⟩ := (rfl)
def kLaw_23 (C : Cx) : K := .seq (kLaw_17 C) (kLaw_22 C)
theorem kLaw_23_eq : kx C run lp (kLaw_23 C) s = obind (kx C run lp (kLaw_17 C) s) (kThen (kx C run lp (kLaw_22 C))) := (rfl)
def kLaw_24 (C : Cx) : K := .reg [.mk (o1 moveA (.tr 7)), .mk (o2 (cmp ilt) (.st 0) (.cst (.int 18446744073709551615 4611686018427387904))), .mk (o1 moveA (.st 0)), .mk (guardA (.st 0) true ((o1 moveA (.tr 7)))), .mk (guardA (.st 1) true ((o1 moveA (.tr 6)))), .mk (guardA (.st 2) true ((o2 (arith isub) (.st 1) (.st 0)))), .mk (guardA (.st 3) true ((o1 moveA (.tr 0)))), .mk (guardA (.st 4) true ((o2 (cmp ine) (.st 1) (.st 0)))), .mk (o3 pickA (.st 5) (.st 0) (.cst (.bool false))), .mk (o1 moveA (.st 0)), .mk (guardA (.st 0) false ((o1 moveA (.tr 7)))), .mk (guardA (.st 1) false ((o1 moveA (.tr 6)))), .mk (guardA (.st 2) false ((o2 (cmp ilt) (.st 1) (.st 0)))), .mk (o3 pickA (.st 3) (.cst (.bool true)) (.st 0)), .mk (o1 moveA (.st 0)), .mk (guardA (.st 0) false ((o1 moveA (.tr 6)))), .mk (guardA (.st 1) false ((o2 (cmp igt) (.st 0) (.cst (.int 18446744073709551615 4611686018427387904))))), .mk (o3 pickA (.st 2) (.cst (.bool true)) (.st 0))] [(47, 0)]
theorem kLaw_24_eq : kx C run lp (kLaw_24 C) ⟨kLaw_T v0 v1 v4 v5 v6 v7 v9 v15 v26 v47, h⟩ = kNrm (moveA v7 h (fun a0 h => cmp ilt a0 (.int 18446744073709551615 4611686018427387904) h (fun a1 h => moveA a1 h (fun a2 h => guardC a2 true (fun κ => moveA v7 h (κ)) h (fun a3 h => guardC a2 true (fun κ => moveA v6 h (κ)) h (fun a4 h => guardC a2 true (fun κ => arith isub a3 a4 h (κ)) h (fun a5 h => guardC a2 true (fun κ => moveA v0 h (κ)) h (fun a6 h => guardC a2 true (fun κ => cmp ine a5 a6 h (κ)) h (fun a7 h => pickA a2 a7 (.bool false) h (fun a8 h => moveA a8 h (fun a9 h => guardC a9 false (fun κ => moveA v7 h (κ)) h (fun a10 h => guardC a9 false (fun κ => moveA v6 h (κ)) h (fun a11 h => guardC a9 false (fun κ => cmp ilt a10 a11 h (κ)) h (fun a12 h => pickA a9 (.bool true) a12 h (fun a13 h => moveA a13 h (fun a14 h => guardC a14 false (fun κ => moveA v6 h (κ)) h (fun a15 h => guardC a14 false (fun κ => cmp igt a15 (.int 18446744073709551615 4611686018427387904) h (κ)) h (fun a16 h => pickA a14 (.bool true) a16 h (fun a17 h => some (.st (kLaw_T v0 v1 v4 v5 v6 v7 v9 v15 v26 a17) h)))))))))))))))))))) := (rfl)
def kLaw_25 (C : Cx) : K := .reg [.mk (o1 moveA (.cst (.bool false)))] [(4, 0)]
theorem kLaw_25_eq : kx C run lp (kLaw_25 C) ⟨kLaw_T v0 v1 v4 v5 v6 v7 v9 v15 v26 v47, h⟩ = kNrm (moveA (.bool false) h (fun a0 h => some (.st (kLaw_T v0 v1 a0 v5 v6 v7 v9 v15 v26 v47) h))) := (rfl)
def kLaw_26 (_ : Cx) : K := .ex .ret
theorem kLaw_26_eq : kx C run lp (kLaw_26 C) s = some (.ret, s) := (rfl)
def kLaw_27 (C : Cx) : K := .seq (kLaw_25 C) (kLaw_26 C)
theorem kLaw_27_eq : kx C run lp (kLaw_27 C) s = obind (kx C run lp (kLaw_25 C) s) (kThen (kx C run lp (kLaw_26 C))) := (rfl)
def kLaw_28 (_ : Cx) : K := .skip
theorem kLaw_28_eq : kx C run lp (kLaw_28 C) s = some (.nrm, s) := (rfl)
def kLaw_29 (C : Cx) : K := .cond (.tr 47) (kLaw_27 C) (kLaw_28 C)
theorem kLaw_29_eq : kx C run lp (kLaw_29 C) ⟨kLaw_T v0 v1 v4 v5 v6 v7 v9 v15 v26 v47, h⟩ = kIf v47 (kx C run lp (kLaw_27 C)) (kx C run lp (kLaw_28 C)) ⟨kLaw_T v0 v1 v4 v5 v6 v7 v9 v15 v26 v47, h⟩ := (rfl)
def kLaw_30 (C : Cx) : K := .seq (kLaw_24 C) (kLaw_29 C)
theorem kLaw_30_eq : kx C run lp (kLaw_30 C) s = obind (kx C run lp (kLaw_24 C) s) (kThen (kx C run lp (kLaw_29 C))) := (rfl)
def kLaw_31 (C : Cx) : K := .reg [.mk (o1 moveA (.tr 1)), .mk (o2 (cmp igt) (.st 0) (.cst (.int 9223372036854775807 1000))), .mk (o1 moveA (.st 0)), .mk (guardA (.st 0) false ((o1 moveA (.tr 0)))), .mk (guardA (.st 1) false ((o2 (cmp igt) (.st 0) (.cst (.int 18446744073709551615 1099511627776))))), .mk (o3 pickA (.st 2) (.cst (.bool true)) (.st 0)), .mk (o1 moveA (.st 0)), .mk (guardA (.st 0) false ((o1 moveA (.tr 6)))), .mk (guardA (.st 1) false ((o1 moveA (.tr 0)))), .mk (guardA (.st 2) false ((o1 moveA (.tr 1)))), .mk (guardA (.st 3) false ((o2 (arith iadd) (.st 0) (.cst (.int 9223372036854775807 1))))), .mk (guardA (.st 4) false ((o1 (cvI 18446744073709551615) (.st 0)))), .mk (guardA (.st 5) false ((o2 (arith imul) (.st 3) (.st 0)))), .mk (guardA (.st 6) false ((o2 (cmp ibeq) (.st 5) (.st 0)))), .mk (o3 pickA (.st 7) (.cst (.bool true)) (.st 0)), .mk (o1 moveA (.st 0))] [(4, 0)]
theorem kLaw_31_eq : kx C run lp (kLaw_31 C) ⟨kLaw_T v0 v1 v4 v5 v6 v7 v9 v15 v26 v47, h⟩ = kNrm (moveA v1 h (fun a0 h => cmp igt a0 (.int 9223372036854775807 1000) h (fun a1 h => moveA a1 h (fun a2 h => guardC a2 false (fun κ => moveA v0 h (κ)) h (fun a3 h => guardC a2 false (fun κ => cmp igt a3 (.int 18446744073709551615 1099511627776) h (κ)) h (fun a4 h => pickA a2 (.bool true) a4 h (fun a5 h => moveA a5 h (fun a6 h => guardC a6 false (fun κ => moveA v6 h (κ)) h (fun a7 h => guardC a6 false (fun κ => moveA v0 h (κ)) h (fun a8 h => guardC a6 false (fun κ => moveA v1 h (κ)) h (fun a9 h => guardC a6 false (fun κ => arith iadd a9 (.int 9223372036854775807 1) h (κ)) h (fun a10 h => guardC a6 false (fun κ => cvI 18446744073709551615 a10 h (κ)) h (fun a11 h => guardC a6 false (fun κ => arith imul a8 a11 h (κ)) h (fun a12 h => guardC a6 false (fun κ => cmp ibeq a7 a12 h (κ)) h (fun a13 h => pickA a6 (.bool true) a13 h (fun a14 h => moveA a14 h (fun a15 h => some (.st (kLaw_T v0 v1 a15 v5 v6 v7 v9 v15 v26 v47) h)))))))))))))))))) := (rfl)
def kLaw_32 (_ : Cx) : K := .ex .ret
theorem kLaw_32_eq : kx C run lp (kLaw_32 C) s = some (.ret, s) := (rfl)
def kLaw_33 (C : Cx) : K := .seq (kLaw_31 C) (kLaw_32 C)
theorem kLaw_33_eq : kx C run lp (kLaw_33 C) s = obind (kx C run lp (kLaw_31 C) s) (kThen (kx C run lp (kLaw_32 C))) := (rfl)
def kLaw_34 (C : Cx) : K := .seq (kLaw_30 C) (kLaw_33 C)
theorem kLaw_34_eq : kx C run lp (kLaw_34 C) s = obind (kx C run lp (kLaw_30 C) s) (kThen (kx C run lp (kLaw_33 C))) := (rfl)
def kLaw_35 (C : Cx) : K := .seq (kLaw_23 C) (kLaw_34 C)
theorem kLaw_35_eq : kx C run lp (kLaw_35 C) s = obind (kx C run lp (kLaw_23 C) s) (kThen (kx C run lp (kLaw_34 C))) := (rfl)
def kLaw_36 (C : Cx) : K := .seq (kLaw_16 C) (kLaw_35 C)
theorem kLaw_36_eq : kx C run lp (kLaw_36 C) s = obind (kx C run lp (kLaw_16 C) s) (kThen (kx C run lp (kLaw_35 C))) := (rfl)
def kLaw_37 (C : Cx) : K := .seq (kLaw_15 C) (kLaw_36 C)
theorem kLaw_37_eq : kx C run lp (kLaw_37 C) s = obind (kx C run lp (kLaw_15 C) s) (kThen (kx C run lp (kLaw_36 C))) := (rfl)
def kLaw_38 (C : Cx) : K := .seq (kLaw_14 C) (kLaw_37 C)
theorem kLaw_38_eq : kx C run lp (kLaw_38 C) s = obind (kx C run lp (kLaw_14 C) s) (kThen (kx C run lp (kLaw_37 C))) := (rfl)
def kLaw_39 (C : Cx) : K := .seq (kLaw_7 C) (kLaw_38 C)
theorem kLaw_39_eq : kx C run lp (kLaw_39 C) s = obind (kx C run lp (kLaw_7 C) s) (kThen (kx C run lp (kLaw_38 C))) := (rfl)
def kLaw_40 (C : Cx) : K := .seq (kLaw_0 C) (kLaw_39 C)
theorem kLaw_40_eq : kx C run lp (kLaw_40 C) s = obind (kx C run lp (kLaw_0 C) s) (kThen (kx C run lp (kLaw_39 C))) := (rfl)
theorem kLaw_ret : endA C [.tmp 4] (.ret, ⟨kLaw_T v0 v1 v4 v5 v6 v7 v9 v15 v26 v47, h⟩) = some (v4, h) := (rfl)
theorem kLaw_nrm : endA C [.tmp 4] (.nrm, ⟨kLaw_T v0 v1 v4 v5 v6 v7 v9 v15 v26 v47, h⟩) = some (v4, h) := (rfl)
end
def kLaw_F (C : Cx) : FK := ⟨kLaw_40 C, [0, 1, 4, 5, 6, 7, 9, 15, 26, 47], 63, [.tmp 4]⟩
theorem kLaw_run (C : Cx) (run : Run) (lp : Lp) (x0 x1 : AV) (h : AH) (ho : C.orc 3 = none) (hf : fkAt C 3 = some (kLaw_F C)) : runF C run lp 3 [x0, x1] h = obind (kx C run lp (kLaw_40 C) ⟨kLaw_T x0 x1 .bot .bot .bot .bot .bot .bot .bot .bot, h⟩) (endA C [.tmp 4]) := by
  unfold runF; rw [ho, hf]; rfl
/- (guipure/cost.Bound).Limit -/
def kLim_T (v0 v1 v2 v4 v5 v6 v17 : AV) : Tm := (.nd 4 (.nd 1 (.lf 0 v0) (.nd 2 (.lf 1 v1) (.lf 2 v2))) (.nd 6 (.nd 5 (.lf 4 v4) (.lf 5 v5)) (.nd 17 (.lf 6 v6) (.lf 17 v17))))
section
variable (C : Cx) (run : Run) (lp : Lp) (s : St) (h : AH) (v0 v1 v2 v4 v5 v6 v17 : AV)
def kLim_0 (C : Cx) : K := .reg [.mk (o1 (boxA 26) (.tr 0)), .mk (o1 moveA (.cst (.int 18446744073709551615 0)))] [(4, 0), (2, 1)]
theorem kLim_0_eq : kx C run lp (kLim_0 C) ⟨kLim_T v0 v1 v2 v4 v5 v6 v17, h⟩ = kNrm (boxA 26 v0 h (fun a0 h => moveA (.int 18446744073709551615 0) h (fun a1 h => some (.st (kLim_T v0 v1 a0 a1 v5 v6 v17) h)))) := (rfl)
def kLim_1 (C : Cx) : K := .reg [.mk (o1 (moveP 0) (.tr 2)), .mk (o1 load1 (.st 0)), .mk (o1 moveA (.tr 1)), .mk (o2 (minmax true) (.cst (.int 9223372036854775807 0)) (.st 0)), .mk (o1 (cvI 18446744073709551615) (.st 0)), .mk (oCallF 16 [(.st 3), (.st 0)]), .mk (o1 moveA (.st 0)), .mk (o1 (extA 0) (.st 0)), .mk (o1 (extA 1) (.st 1)), .mk (o1 moveA (.st 1)), .mk (o1 moveA (.st 1))] [(6, 0), (5, 1)]
theorem kLim_1_eq : kx C run lp (kLim_1 C) ⟨kLim_T v0 v1 v2 v4 v5 v6 v17, h⟩ = kNrm (moveP 0 v2 h (fun a0 h => load1 a0 h (fun a1 h => moveA v1 h (fun a2 h => minmax true (.int 9223372036854775807 0) a2 h (fun a3 h => cvI 18446744073709551615 a3 h (fun a4 h => withX (fun a5 h => moveA a5 h (fun a6 h => extA 0 a6 h (fun a7 h => extA 1 a6 h (fun a8 h => moveA a7 h (fun a9 h => moveA a8 h (fun a10 h => some (.st (kLim_T v0 v1 v2 v4 a9 a10 v17) h))))))) (callA C run 16 [a1, a4] h))))))) := (rfl)
def kLim_2 (C : Cx) : K := .reg [.mk (o1 moveA (.tr 5)), .mk (o2 (cmp igt) (.st 0) (.cst (.int 18446744073709551615 0)))] [(17, 0)]
theorem kLim_2_eq : kx C run lp (kLim_2 C) ⟨kLim_T v0 v1 v2 v4 v5 v6 v17, h⟩ = kNrm (moveA v5 h (fun a0 h => cmp igt a0 (.int 18446744073709551615 0) h (fun a1 h => some (.st (kLim_T v0 v1 v2 v4 v5 v6 a1) h)))) := (rfl)
def kLim_3 (C : Cx) : K := .reg [.mk (o1 moveA (.cst (.int 18446744073709551615 4611686018427387904)))] [(4, 0)]
theorem kLim_3_eq : kx C run lp (kLim_3 C) ⟨kLim_T v0 v1 v2 v4 v5 v6 v17, h⟩ = kNrm (moveA (.int 18446744073709551615 4611686018427387904) h (fun a0 h => some (.st (kLim_T v0 v1 v2 a0 v5 v6 v17) h))) := (rfl)
def kLim_4 (_ : Cx) : K := .ex .ret
theorem kLim_4_eq : kx C run lp (kLim_4 C) s = some (.ret, s) := (rfl)
def kLim_5 (C : Cx) : K := .seq (kLim_3 C) (kLim_4 C)
theorem kLim_5_eq : kx C run lp (kLim_5 C) s = obind (kx C run lp (kLim_3 C) s) (kThen (kx C run lp (kLim_4 C))) := (rfl)
def kLim_6 (_ : Cx) : K := .skip
theorem kLim_6_eq : kx C run lp (kLim_6 C) s = some (.nrm, s) := (rfl)
def kLim_7 (C : Cx) : K := .cond (.tr 17) (kLim_5 C) (kLim_6 C)
theorem kLim_7_eq : kx C run lp (kLim_7 C) ⟨kLim_T v0 v1 v2 v4 v5 v6 v17, h⟩ = kIf v17 (kx C run lp (kLim_5 C)) (kx C run lp (kLim_6 C)) ⟨kLim_T v0 v1 v2 v4 v5 v6 v17, h⟩ := (rfl)
def kLim_8 (C : Cx) : K := .seq (kLim_2 C) (kLim_7 C)
theorem kLim_8_eq : kx C run lp (kLim_8 C) s = obind (kx C run lp (kLim_2 C) s) (kThen (kx C run lp (kLim_7 C))) := (rfl)
def kLim_9 (C : Cx) : K := .reg [.mk (o1 moveA (.tr 6)), .mk (o2 (minmax false) (.st 0) (.cst (.int 18446744073709551615 4611686018427387904))), .mk (o1 (moveP 0) (.tr 2)), .mk (o1 load1 (.st 0)), .mk (oBuildSlice 1 2 [.int 18446744073709551615 0] [(0, (.st 2)), (1, (.st 0))]), .mk (oCallF 17 [(.st 0)]), .mk (o1 moveA (.st 0))] [(4, 0)]
theorem kLim_9_eq : kx C run lp (kLim_9 C) ⟨kLim_T v0 v1 v2 v4 v5 v6 v17, h⟩ = kNrm (moveA v6 h (fun a0 h => minmax false a0 (.int 18446744073709551615 4611686018427387904) h (fun a1 h => moveP 0 v2 h (fun a2 h => load1 a2 h (fun a3 h => bldS 1 2 [.int 18446744073709551615 0] [(0, a1), (1, a3)] h (fun a4 h => withX (fun a5 h => moveA a5 h (fun a6 h => some (.st (kLim_T v0 v1 v2 a6 v5 v6 v17) h))) (callA C run 17 [a4] h))))))) := (rfl)
def kLim_10 (_ : Cx) : K := .ex .ret
theorem kLim_10_eq : kx C run lp (kLim_10 C) s = some (.ret, s) := (rfl)
def kLim_11 (C : Cx) : K := .seq (kLim_9 C) (kLim_10 C)
theorem kLim_11_eq : kx C run lp (kLim_11 C) s = obind (kx C run lp (kLim_9 C) s) (kThen (kx C run lp (kLim_10 C))) := (rfl)
def kLim_12 (C : Cx) : K := .seq (kLim_8 C) (kLim_11 C)
theorem kLim_12_eq : kx C run lp (kLim_12 C) s = obind (kx C run lp (kLim_8 C) s) (kThen (kx C run lp (kLim_11 C))) := (rfl)
def kLim_13 (C : Cx) : K := .seq (kLim_1 C) (kLim_12 C)
theorem kLim_13_eq : kx C run lp (kLim_13 C) s = obind (kx C run lp (kLim_1 C) s) (kThen (kx C run lp (kLim_12 C))) := (rfl)
def kLim_14 (C : Cx) : K := .seq (kLim_0 C) (kLim_13 C)
theorem kLim_14_eq : kx C run lp (kLim_14 C) s = obind (kx C run lp (kLim_0 C) s) (kThen (kx C run lp (kLim_13 C))) := (rfl)
theorem kLim_ret : endA C [.tmp 4] (.ret, ⟨kLim_T v0 v1 v2 v4 v5 v6 v17, h⟩) = some (v4, h) := (rfl)
theorem kLim_nrm : endA C [.tmp 4] (.nrm, ⟨kLim_T v0 v1 v2 v4 v5 v6 v17, h⟩) = some (v4, h) := (rfl)
end
def kLim_F (C : Cx) : FK := ⟨kLim_14 C, [0, 1, 2, 4, 5, 6, 17], 24, [.tmp 4]⟩
theorem kLim_run (C : Cx) (run : Run) (lp : Lp) (x0 x1 : AV) (h : AH) (ho : C.orc 6 = none) (hf : fkAt C 6 = some (kLim_F C)) : runF C run lp 6 [x0, x1] h = obind (kx C run lp (kLim_14 C) ⟨kLim_T x0 x1 .bot .bot .bot .bot .bot, h⟩) (endA C [.tmp 4]) := by
  unfold runF; rw [ho, hf]; rfl
/- math/bits.Mul64 -/
def kMul_T (v0 v1 v4 v5 v6 v7 v8 v9 v10 v11 v12 v13 : AV) : Tm := (.nd 8 (.nd 5 (.nd 1 (.lf 0 v0) (.nd 4 (.lf 1 v1) (.lf 4 v4))) (.nd 6 (.lf 5 v5) (.nd 7 (.lf 6 v6) (.lf 7 v7)))) (.nd 11 (.nd 9 (.lf 8 v8) (.nd 10 (.lf 9 v9) (.lf 10 v10))) (.nd 12 (.lf 11 v11) (.nd 13 (.lf 12 v12) (.lf 13 v13)))))
section
variable (C : Cx) (run : Run) (lp : Lp) (s : St) (h : AH) (v0 v1 v4 v5 v6 v7 v8 v9 v10 v11 v12 v13 : AV)
def kMul_0 (C : Cx) : K := .reg [.mk (o1 moveA (.cst (.int 18446744073709551615 0))), .mk (o1 moveA (.cst (.int 18446744073709551615 0)))] [(5, 0), (4, 1)]
theorem kMul_0_eq : kx C run lp (kMul_0 C) ⟨kMul_T v0 v1 v4 v5 v6 v7 v8 v9 v10 v11 v12 v13, h⟩ = kNrm (moveA (.int 18446744073709551615 0) h (fun a0 h => moveA (.int 18446744073709551615 0) h (fun a1 h => some (.st (kMul_T v0 v1 a0 a1 v6 v7 v8 v9 v10 v11 v12 v13) h)))) := (rfl)
def kMul_1 (C : Cx) : K := .reg [.mk (o1 moveA (.tr 0)), .mk (o2 (bitA 18446744073709551615 18446744073709551615 Nat.land) (.st 0) (.cst (.int 18446744073709551615 4294967295))), .mk (o1 moveA (.st 0))] [(6, 0)]
theorem kMul_1_eq : kx C run lp (kMul_1 C) ⟨kMul_T v0 v1 v4 v5 v6 v7 v8 v9 v10 v11 v12 v13, h⟩ = kNrm (moveA v0 h (fun a0 h => bitA 18446744073709551615 18446744073709551615 Nat.land a0 (.int 18446744073709551615 4294967295) h (fun a1 h => moveA a1 h (fun a2 h => some (.st (kMul_T v0 v1 v4 v5 a2 v7 v8 v9 v10 v11 v12 v13) h))))) := (rfl)
def kMul_2 (C : Cx) : K := .reg [.mk (o1 moveA (.tr 0)), .mk (o2 (shrA 18446744073709551615 64) (.st 0) (.cst (.int 18446744073709551615 32))), .mk (o1 moveA (.st 0))] [(7, 0)]
theorem kMul_2_eq : kx C run lp (kMul_2 C) ⟨kMul_T v0 v1 v4 v5 v6 v7 v8 v9 v10 v11 v12 v13, h⟩ = kNrm (moveA v0 h (fun a0 h => shrA 18446744073709551615 64 a0 (.int 18446744073709551615 32) h (fun a1 h => moveA a1 h (fun a2 h => some (.st (kMul_T v0 v1 v4 v5 v6 a2 v8 v9 v10 v11 v12 v13) h))))) := (rfl)
def kMul_3 (C : Cx) : K := .reg [.mk (o1 moveA (.tr 1)), .mk (o2 (bitA 18446744073709551615 18446744073709551615 Nat.land) (.st 0) (.cst (.int 18446744073709551615 4294967295))), .mk (o1 moveA (.st 0))] [(8, 0)]
theorem kMul_3_eq : kx C run lp (kMul_3 C) ⟨kMul_T v0 v1 v4 v5 v6 v7 v8 v9 v10 v11 v12 v13, h⟩ = kNrm (moveA v1 h (fun a0 h => bitA 18446744073709551615 18446744073709551615 Nat.land a0 (.int 18446744073709551615 4294967295) h (fun a1 h => moveA a1 h (fun a2 h => some (.st (kMul_T v0 v1 v4 v5 v6 v7 a2 v9 v10 v11 v12 v13) h))))) := (rfl)
def kMul_4 (C : Cx) : K := .reg [.mk (o1 moveA (.tr 1)), .mk (o2 (shrA 18446744073709551615 64) (.st 0) (.cst (.int 18446744073709551615 32))), .mk (o1 moveA (.st 0))] [(9, 0)]
theorem kMul_4_eq : kx C run lp (kMul_4 C) ⟨kMul_T v0 v1 v4 v5 v6 v7 v8 v9 v10 v11 v12 v13, h⟩ = kNrm (moveA v1 h (fun a0 h => shrA 18446744073709551615 64 a0 (.int 18446744073709551615 32) h (fun a1 h => moveA a1 h (fun a2 h => some (.st (kMul_T v0 v1 v4 v5 v6 v7 v8 a2 v10 v11 v12 v13) h))))) := (rfl)
def kMul_5 (C : Cx) : K := .reg [.mk (o1 moveA (.tr 6)), .mk (o1 moveA (.tr 8)), .mk (o2 (arith imul) (.st 1) (.st 0)), .mk (o1 moveA (.st 0))] [(10, 0)]
theorem kMul_5_eq : kx C run lp (kMul_5 C) ⟨kMul_T v0 v1 v4 v5 v6 v7 v8 v9 v10 v11 v12 v13, h⟩ = kNrm (moveA v6 h (fun a0 h => moveA v8 h (fun a1 h => arith imul a0 a1 h (fun a2 h => moveA a2 h (fun a3 h => some (.st (kMul_T v0 v1 v4 v5 v6 v7 v8 v9 a3 v11 v12 v13) h)))))) := (rfl)
def kMul_6 (C : Cx) : K := .reg [.mk (o1 moveA (.tr 7)), .mk (o1 moveA (.tr 8)), .mk (o2 (arith imul) (.st 1) (.st 0)), .mk (o1 moveA (.tr 10)), .mk (o2 (shrA 18446744073709551615 64) (.st 0) (.cst (.int 18446744073709551615 32))), .mk (o2 (arith iadd) (.st 2) (.st 0)), .mk (o1 moveA (.st 0))] [(11, 0)]
theorem kMul_6_eq : kx C run lp (kMul_6 C) ⟨kMul_T v0 v1 v4 v5 v6 v7 v8 v9 v10 v11 v12 v13, h⟩ = kNrm (moveA v7 h (fun a0 h => moveA v8 h (fun a1 h => arith imul a0 a1 h (fun a2 h => moveA v10 h (fun a3 h => shrA 18446744073709551615 64 a3 (.int 18446744073709551615 32) h (fun a4 h => arith iadd a2 a4 h (fun a5 h => moveA a5 h (fun a6 h => some (.st (kMul_T v0 v1 v4 v5 v6 v7 v8 v9 v10 a6 v12 v13) h))))))))) := (rfl)
def kMul_7 (C : Cx) : K := .reg [.mk (o1 moveA (.tr 11)), .mk (o2 (bitA 18446744073709551615 18446744073709551615 Nat.land) (.st 0) (.cst (.int 18446744073709551615 4294967295))), .mk (o1 moveA (.st 0))] [(12, 0)]
theorem kMul_7_eq : kx C run lp (kMul_7 C) ⟨kMul_T v0 v1 v4 v5 v6 v7 v8 v9 v10 v11 v12 v13, h⟩ = kNrm (moveA v11 h (fun a0 h => bitA 18446744073709551615 18446744073709551615 Nat.land a0 (.int 18446744073709551615 4294967295) h (fun a1 h => moveA a1 h (fun a2 h => some (.st (kMul_T v0 v1 v4 v5 v6 v7 v8 v9 v10 v11 a2 v13) h))))) := (rfl)
def kMul_8 (C : Cx) : K := .reg [.mk (o1 moveA (.tr 11)), .mk (o2 (shrA 18446744073709551615 64) (.st 0) (.cst (.int 18446744073709551615 32))), .mk (o1 moveA (.st 0))] [(13, 0)]
theorem kMul_8_eq : kx C run lp (kMul_8 C) ⟨kMul_T v0 v1 v4 v5 v6 v7 v8 v9 v10 v11 v12 v13, h⟩ = kNrm (moveA v11 h (fun a0 h => shrA 18446744073709551615 64 a0 (.int 18446744073709551615 32) h (fun a1 h => moveA a1 h (fun a2 h => some (.st (kMul_T v0 v1 v4 v5 v6 v7 v8 v9 v10 v11 v12 a2) h))))) := (rfl)
def kMul_9 (C : Cx) : K := .reg [.mk (o1 moveA (.tr 12)), .mk (o1 moveA (.tr 6)), .mk (o1 moveA (.tr 9)), .mk (o2 (arith imul) (.st 1) (.st 0)), .mk (o2 (arith iadd) (.st 3) (.st 0)), .mk (o1 moveA (.st 0))] [(12, 0)]
theorem kMul_9_eq : kx C run lp (kMul_9 C) ⟨kMul_T v0 v1 v4 v5 v6 v7 v8 v9 v10 v11 v12 v13, h⟩ = kNrm (moveA v12 h (fun a0 h => moveA v6 h (fun a1 h => moveA v9 h (fun a2 h => arith imul a1 a2 h (fun a3 h => arith iadd a0 a3 h (fun a4 h => moveA a4 h (fun a5 h => some (.st (kMul_T v0 v1 v4 v5 v6 v7 v8 v9 v10 v11 a5 v13) h)))))))) := (rfl)
def kMul_10 (C : Cx) : K := .reg [.mk (o1 moveA (.tr 7)), .mk (o1 moveA (.tr 9)), .mk (o2 (arith imul) (.st 1) (.st 0)), .mk (o1 moveA (.tr 13)), .mk (o2 (arith iadd) (.st 1) (.st 0)), .mk (o1 moveA (.tr 12)), .mk (o2 (shrA 18446744073709551615 64) (.st 0) (.cst (.int 18446744073709551615 32))), .mk (o2 (arith iadd) (.st 2) (.st 0)), .mk (o1 moveA (.st 0))] [(4, 0)]
theorem kMul_10_eq : kx C run lp (kMul_10 C) ⟨kMul_T v0 v1 v4 v5 v6 v7 v8 v9 v10 v11 v12 v13, h⟩ = kNrm (moveA v7 h (fun a0 h => moveA v9 h (fun a1 h => arith imul a0 a1 h (fun a2 h => moveA v13 h (fun a3 h => arith iadd a2 a3 h (fun a4 h => moveA v12 h (fun a5 h => shrA 18446744073709551615 64 a5 (.int 18446744073709551615 32) h (fun a6 h => arith iadd a4 a6 h (fun a7 h => moveA a7 h (fun a8 h => some (.st (kMul_T v0 v1 a8 v5 v6 v7 v8 v9 v10 v11 v12 v13) h))))))))))) := (rfl)
def kMul_11 (C : Cx) : K := .reg [.mk (o1 moveA (.tr 0)), .mk (o1 moveA (.tr 1)), .mk (o2 (arith imul) (.st 1) (.st 0)), .mk (o1 moveA (.st 0))] [(5, 0)]
theorem kMul_11_eq : kx C run lp (kMul_11 C) ⟨kMul_T v0 v1 v4 v5 v6 v7 v8 v9 v10 v11 v12 v13, h⟩ = kNrm (moveA v0 h (fun a0 h => moveA v1 h (fun a1 h => arith imul a0 a1 h (fun a2 h => moveA a2 h (fun a3 h => some (.st (kMul_T v0 v1 v4 a3 v6 v7 v8 v9 v10 v11 v12 v13) h)))))) := (rfl)
def kMul_12 (_ : Cx) : K := .ex .ret
theorem kMul_12_eq : kx C run lp (kMul_12 C) s = some (.ret, s) := (rfl)
def kMul_13 (C : Cx) : K := .seq (kMul_11 C) (kMul_12 C)
theorem kMul_13_eq : kx C run lp (kMul_13 C) s = obind (kx C run lp (kMul_11 C) s) (kThen (kx C run lp (kMul_12 C))) := (rfl)
def kMul_14 (C : Cx) : K := .seq (kMul_10 C) (kMul_13 C)
theorem kMul_14_eq : kx C run lp (kMul_14 C) s = obind (kx C run lp (kMul_10 C) s) (kThen (kx C run lp (kMul_13 C))) := (rfl)
def kMul_15 (C : Cx) : K := .seq (kMul_9 C) (kMul_14 C)
theorem kMul_15_eq : kx C run lp (kMul_15 C) s = obind (kx C run lp (kMul_9 C) s) (kThen (kx C run lp (kMul_14 C))) := (rfl)
def kMul_16 (C : Cx) : K := .seq (kMul_8 C) (kMul_15 C)
theorem kMul_16_eq : kx C run lp (kMul_16 C) s = obind (kx C run lp (kMul_8 C) s) (kThen (kx C run lp (kMul_15 C))) := (rfl)
def kMul_17 (C : Cx) : K := .seq (kMul_7 C) (kMul_16 C)
theorem kMul_17_eq : kx C run lp (kMul_17 C) s = obind (kx C run lp (kMul_7 C) s) (kThen (kx C run lp (kMul_16 C))) := (rfl)
def kMul_18 (C : Cx) : K := .seq (kMul_6 C) (kMul_17 C)
theorem kMul_18_eq : kx C run lp (kMul_18 C) s = obind (kx C run lp (kMul_6 C) s) (kThen (kx C run lp (kMul_17 C))) := (rfl)
def kMul_19 (C : Cx) : K := .seq (kMul_5 C) (kMul_18 C)
theorem kMul_19_eq : kx C run lp (kMul_19 C) s = obind (kx C run lp (kMul_5 C) s) (kThen (kx C run lp (kMul_18 C))) := (rfl)
def kMul_20 (C : Cx) : K := .seq (kMul_4 C) (kMul_19 C)
theorem kMul_20_eq : kx C run lp (kMul_20 C) s = obind (kx C run lp (kMul_4 C) s) (kThen (kx C run lp (kMul_19 C))) := (rfl)
def kMul_21 (C : Cx) : K := .seq (kMul_3 C) (kMul_20 C)
theorem kMul_21_eq : kx C run lp (kMul_21 C) s = obind (kx C run lp (kMul_3 C) s) (kThen (kx C run lp (kMul_20 C))) := (rfl)
def kMul_22 (C : Cx) : K := .seq (kMul_2 C) (kMul_21 C)
theorem kMul_22_eq : kx C run lp (kMul_22 C) s = obind (kx C run lp (kMul_2 C) s) (kThen (kx C run lp (kMul_21 C))) := (rfl)
def kMul_23 (C : Cx) : K := .seq (kMul_1 C) (kMul_22 C)
theorem kMul_23_eq : kx C run lp (kMul_23 C) s = obind (kx C run lp (kMul_1 C) s) (kThen (kx C run lp (kMul_22 C))) := (rfl)
def kMul_24 (C : Cx) : K := .seq (kMul_0 C) (kMul_23 C)
theorem kMul_24_eq : kx C run lp (kMul_24 C) s = obind (kx C run lp (kMul_0 C) s) (kThen (kx C run lp (kMul_23 C))) := (rfl)
theorem kMul_ret : endA C [.tmp 4, .tmp 5] (.ret, ⟨kMul_T v0 v1 v4 v5 v6 v7 v8 v9 v10 v11 v12 v13, h⟩) = some ((.tup [v4, v5]), h) := (rfl)
theorem kMul_nrm : endA C [.tmp 4, .tmp 5] (.nrm, ⟨kMul_T v0 v1 v4 v5 v6 v7 v8 v9 v10 v11 v12 v13, h⟩) = some ((.tup [v4, v5]), h) := (rfl)
end
def kMul_F (C : Cx) : FK := ⟨kMul_24 C, [0, 1, 4, 5, 6, 7, 8, 9, 10, 11, 12, 13], 51, [.tmp 4, .tmp 5]⟩
theorem kMul_run (C : Cx) (run : Run) (lp : Lp) (x0 x1 : AV) (h : AH) (ho : C.orc 16 = none) (hf : fkAt C 16 = some (kMul_F C)) : runF C run lp 16 [x0, x1] h = obind (kx C run lp (kMul_24 C) ⟨kMul_T x0 x1 .bot .bot .bot .bot .bot .bot .bot .bot .bot .bot, h⟩) (endA C [.tmp 4, .tmp 5]) := by
  unfold runF; rw [ho, hf]; rfl
/- guipure/cost.add -/
def kAdd_T (v0 v2 v3 v5 v6 v7 v8 v9 : AV) : Tm := (.nd 6 (.nd 3 (.nd 2 (.lf 0 v0) (.lf 2 v2)) (.nd 5 (.lf 3 v3) (.lf 5 v5))) (.nd 8 (.nd 7 (.lf 6 v6) (.lf 7 v7)) (.nd 9 (.lf 8 v8) (.lf 9 v9))))
section
variable (C : Cx) (run : Run) (lp : Lp) (s : St) (h : AH) (v0 v2 v3 v5 v6 v7 v8 v9 : AV)
def kAdd_0 (C : Cx) : K := .reg [.mk (o1 moveA (.cst (.int 18446744073709551615 0)))] [(2, 0)]
theorem kAdd_0_eq : kx C run lp (kAdd_0 C) ⟨kAdd_T v0 v2 v3 v5 v6 v7 v8 v9, h⟩ = kNrm (moveA (.int 18446744073709551615 0) h (fun a0 h => some (.st (kAdd_T v0 a0 v3 v5 v6 v7 v8 v9) h))) := (rfl)
def kAdd_1 (C : Cx) : K := .reg [.mk (o1 moveA (.cst (.int 18446744073709551615 0)))] [(3, 0)]
theorem kAdd_1_eq : kx C run lp (kAdd_1 C) ⟨kAdd_T v0 v2 v3 v5 v6 v7 v8 v9, h⟩ = kNrm (moveA (.int 18446744073709551615 0) h (fun a0 h => some (.st (kAdd_T v0 v2 a0 v5 v6 v7 v8 v9) h))) := (rfl)
def kAdd_2 (C : Cx) : K := .reg [.mk (o1 moveA (.tr 0)), .mk (o1 lenS (.st 0)), .mk (o1 moveA (.cst (.int 9223372036854775807 0)))] [(8, 0), (7, 1), (6, 2)]
theorem kAdd_2_eq : kx C run lp (kAdd_2 C) ⟨kAdd_T v0 v2 v3 v5 v6 v7 v8 v9, h⟩ = kNrm (moveA v0 h (fun a0 h => lenS a0 h (fun a1 h => moveA (.int 9223372036854775807 0) h (fun a2 h => some (.st (kAdd_T v0 v2 v3 v5 a0 a1 a2 v9) h))))) := (rfl)
def kAdd_3 (C : Cx) : K := .reg [.mk (o2 (cmp ilt) (.tr 8) (.tr 7))] [(9, 0)]
theorem kAdd_3_eq : kx C run lp (kAdd_3 C) ⟨kAdd_T v0 v2 v3 v5 v6 v7 v8 v9, h⟩ = kNrm (cmp ilt v8 v7 h (fun a0 h => some (.st (kAdd_T v0 v2 v3 v5 v6 v7 v8 a0) h))) := (rfl)
def kAdd_4 (_ : Cx) : K := .skip
theorem kAdd_4_eq : kx C run lp (kAdd_4 C) s = some (.nrm, s) := (rfl)
def kAdd_5 (_ : Cx) : K := .ex (.exit 0)
theorem kAdd_5_eq : kx C run lp (kAdd_5 C) s = some (.exit 0, s) := (rfl)
def kAdd_6 (C : Cx) : K := .cond (.tr 9) (kAdd_4 C) (kAdd_5 C)
theorem kAdd_6_eq : kx C run lp (kAdd_6 C) ⟨kAdd_T v0 v2 v3 v5 v6 v7 v8 v9, h⟩ = kIf v9 (kx C run lp (kAdd_4 C)) (kx C run lp (kAdd_5 C)) ⟨kAdd_T v0 v2 v3 v5 v6 v7 v8 v9, h⟩ := (rfl)
def kAdd_7 (C : Cx) : K := .reg [.mk (o2 (idxS 1) (.tr 6) (.tr 8)), .mk (o1 load1 (.st 0)), .mk (o1 moveA (.st 0))] [(5, 0)]
theorem kAdd_7_eq : kx C run lp (kAdd_7 C) ⟨kAdd_T v0 v2 v3 v5 v6 v7 v8 v9, h⟩ = kNrm (idxS 1 v6 v8 h (fun a0 h => load1 a0 h (fun a1 h => moveA a1 h (fun a2 h => some (.st (kAdd_T v0 v2 v3 a2 v6 v7 v8 v9) h))))) := (rfl)
def kAdd_8 (C : Cx) : K := .reg [.mk (o1 moveA (.tr 3)), .mk (o1 moveA (.tr 5)), .mk (o2 (arith iadd) (.st 1) (.st 0)), .mk (o2 (minmax false) (.st 0) (.cst (.int 18446744073709551615 4611686018427387904))), .mk (o1 moveA (.st 0))] [(3, 0)]
theorem kAdd_8_eq : kx C run lp (kAdd_8 C) ⟨kAdd_T v0 v2 v3 v5 v6 v7 v8 v9, h⟩ = kNrm (moveA v3 h (fun a0 h => moveA v5 h (fun a1 h => arith iadd a0 a1 h (fun a2 h => minmax false a2 (.int 18446744073709551615 4611686018427387904) h (fun a3 h => moveA a3 h (fun a4 h => some (.st (kAdd_T v0 v2 a4 v5 v6 v7 v8 v9) h))))))) := (rfl)
def kAdd_9 (C : Cx) : K := .seq (kAdd_7 C) (kAdd_8 C)
theorem kAdd_9_eq : kx C run lp (kAdd_9 C) s = obind (kx C run lp (kAdd_7 C) s) (kThen (kx C run lp (kAdd_8 C))) := (rfl)
def kAdd_10 (C : Cx) : K := .block 1 (kAdd_9 C)
theorem kAdd_10_eq : kx C run lp (kAdd_10 C) s = obind (kx C run lp (kAdd_9 C) s) (kOut 1) := (rfl)
def kAdd_11 (C : Cx) : K := .reg [.mk (o2 (arith iadd) (.tr 8) (.cst (.int 9223372036854775807 1))), .mk (o1 moveA (.st 0))] [(8, 0)]
theorem kAdd_11_eq : kx C run lp (kAdd_11 C) ⟨kAdd_T v0 v2 v3 v5 v6 v7 v8 v9, h⟩ = kNrm (arith iadd v8 (.int 9223372036854775807 1) h (fun a0 h => moveA a0 h (fun a1 h => some (.st (kAdd_T v0 v2 v3 v5 v6 v7 a1 v9) h)))) := (rfl)
def kAdd_12 (C : Cx) : K := .seq (kAdd_10 C) (kAdd_11 C)
theorem kAdd_12_eq : kx C run lp (kAdd_12 C) s = obind (kx C run lp (kAdd_10 C) s) (kThen (kx C run lp (kAdd_11 C))) := (rfl)
def kAdd_13 (C : Cx) : K := .seq (kAdd_6 C) (kAdd_12 C)
theorem kAdd_13_eq : kx C run lp (kAdd_13 C) s = obind (kx C run lp (kAdd_6 C) s) (kThen (kx C run lp (kAdd_12 C))) := (rfl)
def kAdd_14 (C : Cx) : K := .seq (kAdd_3 C) (kAdd_13 C)
theorem kAdd_14_eq : kx C run lp (kAdd_14 C) s = obind (kx C run lp (kAdd_3 C) s) (kThen (kx C run lp (kAdd_13 C))) := (rfl)
def kAdd_15 (C : Cx) : K := .loop (kAdd_14 C)
theorem kAdd_15_eq : kx C run lp (kAdd_15 C) s = lp (kAdd_14 C) s := (rfl)
def kAdd_16 (C : Cx) : K := .block 0 (kAdd_15 C)
theorem kAdd_16_eq : kx C run lp (kAdd_16 C) s = obind (kx C run lp (kAdd_15 C) s) (kOut 0) := (rfl)
def kAdd_17 (C : Cx) : K := .seq (kAdd_2 C) (kAdd_16 C)
theorem kAdd_17_eq : kx C run lp (kAdd_17 C) s = obind (kx C run lp (kAdd_2 C) s) (kThen (kx C run lp (kAdd_16 C))) := (rfl)
def kAdd_18 (C : Cx) : K := .reg [.mk (o1 moveA (.tr 3)), .mk (o1 moveA (.st 0))] [(2, 0)]
theorem kAdd_18_eq : kx C run lp (kAdd_18 C) ⟨kAdd_T v0 v2 v3 v5 v6 v7 v8 v9, h⟩ = kNrm (moveA v3 h (fun a0 h => moveA a0 h (fun a1 h => some (.st (kAdd_T v0 a1 v3 v5 v6 v7 v8 v9) h)))) := (rfl)
def kAdd_19 (_ : Cx) : K := .ex .ret
theorem kAdd_19_eq : kx C run lp (kAdd_19 C) s = some (.ret, s) := (rfl)
def kAdd_20 (C : Cx) : K := .seq (kAdd_18 C) (kAdd_19 C)
theorem kAdd_20_eq : kx C run lp (kAdd_20 C) s = obind (kx C run lp (kAdd_18 C) s) (kThen (kx C run lp (kAdd_19 C))) := (rfl)
def kAdd_21 (C : Cx) : K := .seq (kAdd_17 C) (kAdd_20 C)
theorem kAdd_21_eq : kx C run lp (kAdd_21 C) s = obind (kx C run lp (kAdd_17 C) s) (kThen (kx C run lp (kAdd_20 C))) := (rfl)
def kAdd_22 (C : Cx) : K := .seq (kAdd_1 C) (kAdd_21 C)
theorem kAdd_22_eq : kx C run lp (kAdd_22 C) s = obind (kx C run lp (kAdd_1 C) s) (kThen (kx C run lp (kAdd_21 C))) := (rfl)
def kAdd_23 (C : Cx) : K := .seq (kAdd_0 C) (kAdd_22 C)
theorem kAdd_23_eq : kx C run lp (kAdd_23 C) s = obind (kx C run lp (kAdd_0 C) s) (kThen (kx C run lp (kAdd_22 C))) := (rfl)
theorem kAdd_ret : endA C [.tmp 2] (.ret, ⟨kAdd_T v0 v2 v3 v5 v6 v7 v8 v9, h⟩) = some (v2, h) := (rfl)
theorem kAdd_nrm : endA C [.tmp 2] (.nrm, ⟨kAdd_T v0 v2 v3 v5 v6 v7 v8 v9, h⟩) = some (v2, h) := (rfl)
end
def kAdd_F (C : Cx) : FK := ⟨kAdd_23 C, [0, 2, 3, 5, 6, 7, 8, 9], 18, [.tmp 2]⟩
theorem kAdd_run (C : Cx) (run : Run) (lp : Lp) (x0 : AV) (h : AH) (ho : C.orc 17 = none) (hf : fkAt C 17 = some (kAdd_F C)) : runF C run lp 17 [x0] h = obind (kx C run lp (kAdd_23 C) ⟨kAdd_T x0 .bot .bot .bot .bot .bot .bot .bot, h⟩) (endA C [.tmp 2]) := by
  unfold runF; rw [ho, hf]; rfl

theorem kLaw_fk (mx : Int) : fkAt (CL mx) 3 = some (kLaw_F (CL mx)) := by kernel_rfl
theorem kLim_fk (mx : Int) : fkAt (CL mx) 6 = some (kLim_F (CL mx)) := by kernel_rfl
theorem kMul_fk (mx : Int) : fkAt (CL mx) 16 = some (kMul_F (CL mx)) := by kernel_rfl
theorem kAdd_fk (mx : Int) : fkAt (CL mx) 17 = some (kAdd_F (CL mx)) := by kernel_rfl
end
theorem cl_ok {mx : Int} : CxOk Tryz.prog (CL mx) := CxOk.told c0_ok (show ∀ p ∈ [([], AV.bool true)], _ from List.forall_mem_cons.2 ⟨co_head c0_ok, fun _ h => nomatch h⟩)
theorem land32 (a : Nat) : Nat.land a 4294967295 = a % 4294967296 := Nat.and_two_pow_sub_one_eq_mod a 32
theorem mul_split (x y : Nat) (hx : x < 18446744073709551616) (hy : y < 18446744073709551616) :
    x / 4294967296 * (y / 4294967296) + (x / 4294967296 * (y % 4294967296) + x % 4294967296 * (y % 4294967296) / 4294967296) / 4294967296 + ((x / 4294967296 * (y % 4294967296) + x % 4294967296 * (y % 4294967296) / 4294967296) % 4294967296 + x % 4294967296 * (y / 4294967296)) / 4294967296 = x * y / 18446744073709551616 ∧
    x % 4294967296 * (y % 4294967296) ≤ 18446744065119617025 ∧ x / 4294967296 * (y % 4294967296) ≤ 18446744065119617025 ∧ x % 4294967296 * (y / 4294967296) ≤ 18446744065119617025 ∧ x / 4294967296 * (y / 4294967296) ≤ 18446744065119617025 := by
  have ex : x = x / 4294967296 * 4294967296 + x % 4294967296 := by omega
  have ey : y = y / 4294967296 * 4294967296 + y % 4294967296 := by omega
  have l1 : x / 4294967296 ≤ 4294967295 := by omega
  have l2 : x % 4294967296 ≤ 4294967295 := by omega
  have l3 : y / 4294967296 ≤ 4294967295 := by omega
  have l4 : y % 4294967296 ≤ 4294967295 := by omega
  generalize x / 4294967296 = a at *
  generalize x % 4294967296 = b at *
  generalize y / 4294967296 = c at *
  generalize y % 4294967296 = d at *
  have e : x * y = a * c * 18446744073709551616 + (a * d + b * c) * 4294967296 + b * d := by
    rw [ex, ey]
    simp only [Nat.add_mul, Nat.mul_add]
    have : a * 4294967296 * (c * 4294967296) = a * c * 18446744073709551616 := by
      rw [Nat.mul_assoc, Nat.mul_left_comm 4294967296, ← Nat.mul_assoc]
    have h2 : a * 4294967296 * d = a * d * 4294967296 := by rw [Nat.mul_assoc, Nat.mul_comm 4294967296, ← Nat.mul_assoc]
    have h3 : b * (c * 4294967296) = b * c * 4294967296 := by rw [← Nat.mul_assoc]
    omega
  have m1 : b * d ≤ 4294967295 * 4294967295 := Nat.mul_le_mul l2 l4
  have m2 : a * d ≤ 4294967295 * 4294967295 := Nat.mul_le_mul l1 l4
  have m3 : b * c ≤ 4294967295 * 4294967295 := Nat.mul_le_mul l2 l3
  have m4 : a * c ≤ 4294967295 * 4294967295 := Nat.mul_le_mul l1 l3
  rw [e]
  generalize a * c = ac at *
  generalize a * d = ad at *
  generalize b * c = bc at *
  generalize b * d = bd at *
  refine ⟨?_, by omega, by omega, by omega, by omega⟩
  omega
theorem t32 : 2 ^ Int.toNat 32 = 4294967296 := by simp
theorem s32 (k a : Nat) (h : AH) (κ : Ka) : shrA 18446744073709551615 64 (.int 18446744073709551615 (a : Int)) (.int k 32) h κ = κ (.int 18446744073709551615 ((a / 4294967296 : Nat) : Int)) h := by
  rw [shrA_eq a (by decide) (by decide), t32]
theorem a32 (a : Nat) (h : AH) (κ : Ka) (ha : a ≤ 18446744073709551615) : bitA 18446744073709551615 18446744073709551615 Nat.land (.int 18446744073709551615 (a : Int)) (.int 18446744073709551615 4294967295) h κ = κ (.int 18446744073709551615 ((a % 4294967296 : Nat) : Int)) h := by
  rw [bitA_eq, toU_nat ha, show toU 18446744073709551615 4294967295 = 4294967295 from toU_int (by decide) (by decide), land32, wrapA_nat (by omega)]
theorem mulN {a b : Nat} (hab : a * b ≤ 18446744073709551615) (h : AH) (κ : Ka) : arith imul (.int 18446744073709551615 (a : Int)) (.int 18446744073709551615 (b : Int)) h κ = κ (.int 18446744073709551615 ((a * b : Nat) : Int)) h := by
  rw [arith_eq, imulE, show (a : Int) * (b : Int) = ((a * b : Nat) : Int) by push_cast; rfl, wrapA_nat hab]
theorem addN {a b : Nat} (hab : a + b ≤ 18446744073709551615) (h : AH) (κ : Ka) : arith iadd (.int 18446744073709551615 (a : Int)) (.int 18446744073709551615 (b : Int)) h κ = κ (.int 18446744073709551615 ((a + b : Nat) : Int)) h := by
  rw [arith_eq, iaddE, show (a : Int) + (b : Int) = ((a + b : Nat) : Int) by push_cast; rfl, wrapA_nat hab]
theorem mulW (x y : Nat) (h : AH) (κ : Ka) : arith imul (.int 18446744073709551615 (x : Int)) (.int 18446744073709551615 (y : Int)) h κ = κ (.int 18446744073709551615 ((x * y % 18446744073709551616 : Nat) : Int)) h := by
  rw [arith_eq, imulE, show (x : Int) * (y : Int) = ((x * y : Nat) : Int) by push_cast; rfl, wrapA_u64']
  rw [show IntKind.u64.wrap ((x * y : Nat) : Int) = ((x * y % 18446744073709551616 : Nat) : Int) from ?_]
  generalize x * y = p
  simp [IntKind.wrap, IntKind.min, IntKind.max, IntKind.signed, IntKind.bits]
theorem mul_run (mx : Int) (n : Nat) (x y : Nat) (hx : x ≤ 18446744073709551615) (hy : y ≤ 18446744073709551615) (h : AH) :
    (rl (CL mx) (n + 1)).run 16 [.int 18446744073709551615 (x : Int), .int 18446744073709551615 (y : Int)] h = some (.tup [.int 18446744073709551615 ((x * y / 18446744073709551616 : Nat) : Int), .int 18446744073709551615 ((x * y % 18446744073709551616 : Nat) : Int)], h) := by
  rw [rl_run, kMul_run _ _ _ _ _ _ (by kernel_rfl) (kMul_fk mx)]
  obtain ⟨g, g1, g2, g3, g4⟩ := mul_split x y (by omega) (by omega)
  have ax := fun h κ => a32 x h κ hx
  have ay := fun h κ => a32 y h κ hy
  have lo := mulW x y
  have sx := s32 18446744073709551615 x
  obtain ⟨x0, ex0⟩ : ∃ z, x % 4294967296 = z := ⟨_, rfl⟩
  obtain ⟨x1, ex1⟩ : ∃ z, x / 4294967296 = z := ⟨_, rfl⟩
  obtain ⟨y0, ey0⟩ : ∃ z, y % 4294967296 = z := ⟨_, rfl⟩
  obtain ⟨y1, ey1⟩ : ∃ z, y / 4294967296 = z := ⟨_, rfl⟩
  obtain ⟨lw, elw⟩ : ∃ z, x * y % 18446744073709551616 = z := ⟨_, rfl⟩
  obtain ⟨hw, ehw⟩ : ∃ z, x * y / 18446744073709551616 = z := ⟨_, rfl⟩
  rw [ex0, ex1, ey0, ey1, ehw] at g
  rw [ex0, ey0] at g1
  rw [ex1, ey0] at g2
  rw [ex0, ey1] at g3
  rw [ex1, ey1] at g4
  simp only [ex0] at ax
  simp only [ey0] at ay
  simp only [elw] at lo
  rw [elw, ehw]
  simp only [guardC_b, guardC_u, beqB_tt, beqB_tf, beqB_ft, beqB_ff, min_eq, max_eq, vhO_kVH, ckX_same, bldS_int2, lt_agg, lt_tup, lt_int, lt_bool, lt_str, lt_nils, lt_sle, lt_nil, lt_slp, lt_ptp, kNrm_st, obindS, obindN, kThen_nrm, kThen_ret, kThen_exit, kOut_nrm, kOut_ret, kOut_exit, kIf_b, bqT, bqF, moveA_eq, pickA_eq, boxA_eq, newA_eq, cmp_eq, arith_eq, remA_eq, quoA_eq, notA_eq, negA_eq, cvI_eq, moveP_o, moveP_p, blkC_cells, load1_o, load1_p, loadG_o, loadG_p, store1_o, storeG_o, lenS_nils, lenS_sle, lenS_p, lenS_o, lenT_eq, idxS_p, idxS_o, idxT_eq, idxA_o, idxV1_eq, fld1_eq, fldG_eq, extA_eq, nilCk_o, nilCk_p, strAdd_eq, strCmp_eq, withX_some, withX_none, iaddE, isubE, imulE, iltE, igtE, ileE, igeE, ineE, ibeqE, hget_top, hget_zero, hget_succ, set_top, plains_nil, plains_cons, plain_int, plain_bool, plain_str, plain_nils, plain_slp, plain_sle, plain_nil, plain_pto, plain_ptp, plain_slo, nb_agg, nb_int, nb_bool, nb_str, nb_slp, nb_nils, nb_sle, nb_slo, cells_agg, cells_int, cells_bool, cells_str, List.length_cons, List.length_nil, List.length_append, List.take_succ_cons, List.take_zero, List.drop_succ_cons, List.drop_zero, List.cons_append, List.nil_append, List.append_nil, List.drop_nil, List.take_nil, List.getElem?_cons_zero, List.getElem?_cons_succ, List.set_cons_zero, List.set_cons_succ, Nat.reduceAdd, Nat.reduceMul, Nat.reduceSub, Nat.reduceLeDiff, Nat.reduceEqDiff, Nat.reduceLT, Nat.zero_add, Nat.add_zero, decide_true, decide_false, Bool.and_true, Bool.true_and, Bool.and_false, Bool.false_and, Bool.not_true, Bool.not_false, Nat.le_refl, reduceIte, kMul_0_eq, kMul_1_eq, kMul_2_eq, kMul_3_eq, kMul_4_eq, kMul_5_eq, kMul_6_eq, kMul_7_eq, kMul_8_eq, kMul_9_eq, kMul_10_eq, kMul_11_eq, kMul_12_eq, kMul_13_eq, kMul_14_eq, kMul_15_eq, kMul_16_eq, kMul_17_eq, kMul_18_eq, kMul_19_eq, kMul_20_eq, kMul_21_eq, kMul_22_eq, kMul_23_eq, kMul_24_eq, kMul_ret, kMul_nrm, lo, ax, ay, s32, ex1, ey1, mulN (show x0 * y0 ≤ 18446744073709551615 by omega), mulN (show x1 * y0 ≤ 18446744073709551615 by omega), mulN (show x0 * y1 ≤ 18446744073709551615 by omega), mulN (show x1 * y1 ≤ 18446744073709551615 by omega),
    addN (show x1 * y0 + x0 * y0 / 4294967296 ≤ 18446744073709551615 by omega), a32 _ _ _ (show x1 * y0 + x0 * y0 / 4294967296 ≤ 18446744073709551615 by omega),
    addN (show (x1 * y0 + x0 * y0 / 4294967296) % 4294967296 + x0 * y1 ≤ 18446744073709551615 by omega),
    addN (show x1 * y1 + (x1 * y0 + x0 * y0 / 4294967296) / 4294967296 ≤ 18446744073709551615 by omega),
    addN (show x1 * y1 + (x1 * y0 + x0 * y0 / 4294967296) / 4294967296 + ((x1 * y0 + x0 * y0 / 4294967296) % 4294967296 + x0 * y1) / 4294967296 ≤ 18446744073709551615 by omega), g]
/-- Two numbers together, up to the most. -/
theorem add_run (mx : Int) (n : Nat) (x y : Nat) (hx : x ≤ 4611686018427387904) (hy : y ≤ 4611686018427387904) (h : AH) (b : Nat) (hb : hget h b = some (.cells [.int 18446744073709551615 (x : Int), .int 18446744073709551615 (y : Int)] 0)) :
    (rl (CL mx) (n + 4)).run 17 [.slo b 0 2 2 1 true] h = some (.int 18446744073709551615 ((min (x + y) 4611686018427387904 : Nat) : Int), h) := by
  rw [rl_run, kAdd_run _ _ _ _ _ (by kernel_rfl) (kAdd_fk mx)]
  have e1 : ((0 : Nat) : Int) = 0 := rfl
  have c1 : min (0 + (x : Int)) 4611686018427387904 = (x : Int) := by omega
  have c2 : min ((x : Int) + (y : Int)) 4611686018427387904 = ((min (x + y) 4611686018427387904 : Nat) : Int) := by omega
  have w1 : wrapA 18446744073709551615 (0 + (x : Int)) = 0 + (x : Int) := wrapA_le (by omega) (by omega)
  have w2 : wrapA 18446744073709551615 ((x : Int) + (y : Int)) = (x : Int) + (y : Int) := wrapA_le (by omega) (by omega)
  have i0 : ∀ (h : AH) (κ : Ka), idxS 1 (.slo b 0 2 2 1 true) (.int 9223372036854775807 0) h κ = κ (.pto b 0) h := fun h κ => (idxS_o 1 b 0 2 2 true 9223372036854775807 0).trans (by rfl)
  have i1 : ∀ (h : AH) (κ : Ka), idxS 1 (.slo b 0 2 2 1 true) (.int 9223372036854775807 1) h κ = κ (.pto b 1) h := fun h κ => (idxS_o 1 b 0 2 2 true 9223372036854775807 1).trans (by rfl)
  have a1 : wrapA 9223372036854775807 (0 + 1) = 1 := by rfl
  have a2 : wrapA 9223372036854775807 (1 + 1) = 2 := by rfl
  have l1 : ((2 : Nat) : Int) = 2 := rfl
  have d1 : decide ((0 : Int) < 2) = true := by decide
  have d2 : decide ((1 : Int) < 2) = true := by decide
  have d3 : decide ((2 : Int) < 2) = false := by decide
  simp only [guardC_b, guardC_u, beqB_tt, beqB_tf, beqB_ft, beqB_ff, min_eq, max_eq, vhO_kVH, ckX_same, bldS_int2, lt_agg, lt_tup, lt_int, lt_bool, lt_str, lt_nils, lt_sle, lt_nil, lt_slp, lt_ptp, kNrm_st, obindS, obindN, kThen_nrm, kThen_ret, kThen_exit, kOut_nrm, kOut_ret, kOut_exit, kIf_b, bqT, bqF, moveA_eq, pickA_eq, boxA_eq, newA_eq, cmp_eq, arith_eq, remA_eq, quoA_eq, notA_eq, negA_eq, cvI_eq, moveP_o, moveP_p, blkC_cells, load1_o, load1_p, loadG_o, loadG_p, store1_o, storeG_o, lenS_nils, lenS_sle, lenS_p, lenS_o, lenT_eq, idxS_p, idxS_o, idxT_eq, idxA_o, idxV1_eq, fld1_eq, fldG_eq, extA_eq, nilCk_o, nilCk_p, strAdd_eq, strCmp_eq, withX_some, withX_none, iaddE, isubE, imulE, iltE, igtE, ileE, igeE, ineE, ibeqE, hget_top, hget_zero, hget_succ, set_top, plains_nil, plains_cons, plain_int, plain_bool, plain_str, plain_nils, plain_slp, plain_sle, plain_nil, plain_pto, plain_ptp, plain_slo, nb_agg, nb_int, nb_bool, nb_str, nb_slp, nb_nils, nb_sle, nb_slo, cells_agg, cells_int, cells_bool, cells_str, List.length_cons, List.length_nil, List.length_append, List.take_succ_cons, List.take_zero, List.drop_succ_cons, List.drop_zero, List.cons_append, List.nil_append, List.append_nil, List.drop_nil, List.take_nil, List.getElem?_cons_zero, List.getElem?_cons_succ, List.set_cons_zero, List.set_cons_succ, Nat.reduceAdd, Nat.reduceMul, Nat.reduceSub, Nat.reduceLeDiff, Nat.reduceEqDiff, Nat.reduceLT, Nat.zero_add, Nat.add_zero, decide_true, decide_false, Bool.and_true, Bool.true_and, Bool.and_false, Bool.false_and, Bool.not_true, Bool.not_false, Nat.le_refl, reduceIte, kAdd_0_eq, kAdd_1_eq, kAdd_2_eq, kAdd_3_eq, kAdd_4_eq, kAdd_5_eq, kAdd_6_eq, kAdd_7_eq, kAdd_8_eq, kAdd_9_eq, kAdd_10_eq, kAdd_11_eq, kAdd_12_eq, kAdd_13_eq, kAdd_14_eq, kAdd_15_eq, kAdd_16_eq, kAdd_17_eq, kAdd_18_eq, kAdd_19_eq, kAdd_20_eq, kAdd_21_eq, kAdd_22_eq, kAdd_23_eq, kAdd_ret, kAdd_nrm, rl_lp, i0, i1, hb, c1, c2, w1, w2, a1, a2, l1, d1, d2, d3]
theorem lim_run (mx : Int) (n : Nat) (x : Nat) (hx : x ≤ 4611686018427387904) (c1 c2 : AV) (m : Int) (q : Nat) (hq : max 0 m = (q : Int)) (hq' : q ≤ 9223372036854775807) (h : AH) :
    ∃ h', (rl (CL mx) (n + 5)).run 6 [.agg [.int 18446744073709551615 (x : Int), c1, c2], .int 9223372036854775807 m] h = some (.int 18446744073709551615 ((min (min (x * q) 4611686018427387904 + x) 4611686018427387904 : Nat) : Int), h') := by
  rw [rl_run, kLim_run _ _ _ _ _ _ (by kernel_rfl) (kLim_fk mx)]
  have hmul := fun h => callA_pure (C := CL mx) (run := (rl (CL mx) (n + 4)).run) (h := h) (by kernel_rfl) (by rfl) (by kernel_rfl) (mul_run mx (n + 3) x q (by omega) (by omega) []) (by rfl)
  have w1 : wrapA 18446744073709551615 (q : Int) = (q : Int) := wrapA_nat (by omega)
  by_cases hb : x * q < 18446744073709551616
  · have z1 : x * q / 18446744073709551616 = 0 := Nat.div_eq_of_lt hb
    have z2 : x * q % 18446744073709551616 = x * q := Nat.mod_eq_of_lt hb
    rw [z1, z2] at hmul
    have l0 : decide ((0 : Int) < ((0 : Nat) : Int)) = false := by decide
    have c0 : min ((x * q : Nat) : Int) 4611686018427387904 = ((min (x * q) 4611686018427387904 : Nat) : Int) := by omega
    have hg := hget_top (h ++ [some (Blk.cells [.int 18446744073709551615 (x : Int), c1, c2] (25 + 1))]) (some (Blk.cells [.int 18446744073709551615 ((min (x * q) 4611686018427387904 : Nat) : Int), .int 18446744073709551615 (x : Int)] 0))
    have hadd := callA_own (C := CL mx) (run := (rl (CL mx) (n + 4)).run) (by kernel_rfl) (by rfl) (by kernel_rfl) (add_run mx n (min (x * q) 4611686018427387904) x (by omega) hx _ _ hg)
    simp only [List.length_append, List.length_cons, List.length_nil, Nat.zero_add] at hadd
    apply Exists.intro
    simp only [guardC_b, guardC_u, beqB_tt, beqB_tf, beqB_ft, beqB_ff, min_eq, max_eq, vhO_kVH, ckX_same, bldS_int2, lt_agg, lt_tup, lt_int, lt_bool, lt_str, lt_nils, lt_sle, lt_nil, lt_slp, lt_ptp, kNrm_st, obindS, obindN, kThen_nrm, kThen_ret, kThen_exit, kOut_nrm, kOut_ret, kOut_exit, kIf_b, bqT, bqF, moveA_eq, pickA_eq, boxA_eq, newA_eq, cmp_eq, arith_eq, remA_eq, quoA_eq, notA_eq, negA_eq, cvI_eq, moveP_o, moveP_p, blkC_cells, load1_o, load1_p, loadG_o, loadG_p, store1_o, storeG_o, lenS_nils, lenS_sle, lenS_p, lenS_o, lenT_eq, idxS_p, idxS_o, idxT_eq, idxA_o, idxV1_eq, fld1_eq, fldG_eq, extA_eq, nilCk_o, nilCk_p, strAdd_eq, strCmp_eq, withX_some, withX_none, iaddE, isubE, imulE, iltE, igtE, ileE, igeE, ineE, ibeqE, hget_top, hget_zero, hget_succ, set_top, plains_nil, plains_cons, plain_int, plain_bool, plain_str, plain_nils, plain_slp, plain_sle, plain_nil, plain_pto, plain_ptp, plain_slo, nb_agg, nb_int, nb_bool, nb_str, nb_slp, nb_nils, nb_sle, nb_slo, cells_agg, cells_int, cells_bool, cells_str, List.length_cons, List.length_nil, List.length_append, List.take_succ_cons, List.take_zero, List.drop_succ_cons, List.drop_zero, List.cons_append, List.nil_append, List.append_nil, List.drop_nil, List.take_nil, List.getElem?_cons_zero, List.getElem?_cons_succ, List.set_cons_zero, List.set_cons_succ, Nat.reduceAdd, Nat.reduceMul, Nat.reduceSub, Nat.reduceLeDiff, Nat.reduceEqDiff, Nat.reduceLT, Nat.zero_add, Nat.add_zero, decide_true, decide_false, Bool.and_true, Bool.true_and, Bool.and_false, Bool.false_and, Bool.not_true, Bool.not_false, Nat.le_refl, reduceIte, kLim_0_eq, kLim_1_eq, kLim_2_eq, kLim_3_eq, kLim_4_eq, kLim_5_eq, kLim_6_eq, kLim_7_eq, kLim_8_eq, kLim_9_eq, kLim_10_eq, kLim_11_eq, kLim_12_eq, kLim_13_eq, kLim_14_eq, kLim_ret, kLim_nrm, hq, w1, hmul, l0, c0, hadd]
    rfl
  · have z1 : decide ((0 : Int) < ((x * q / 18446744073709551616 : Nat) : Int)) = true := by rw [decide_eq_true]; generalize x * q = p at *; omega
    have z2 : min (min (x * q) 4611686018427387904 + x) 4611686018427387904 = 4611686018427387904 := by generalize x * q = p at *; omega
    rw [z2]
    apply Exists.intro
    simp only [guardC_b, guardC_u, beqB_tt, beqB_tf, beqB_ft, beqB_ff, min_eq, max_eq, vhO_kVH, ckX_same, bldS_int2, lt_agg, lt_tup, lt_int, lt_bool, lt_str, lt_nils, lt_sle, lt_nil, lt_slp, lt_ptp, kNrm_st, obindS, obindN, kThen_nrm, kThen_ret, kThen_exit, kOut_nrm, kOut_ret, kOut_exit, kIf_b, bqT, bqF, moveA_eq, pickA_eq, boxA_eq, newA_eq, cmp_eq, arith_eq, remA_eq, quoA_eq, notA_eq, negA_eq, cvI_eq, moveP_o, moveP_p, blkC_cells, load1_o, load1_p, loadG_o, loadG_p, store1_o, storeG_o, lenS_nils, lenS_sle, lenS_p, lenS_o, lenT_eq, idxS_p, idxS_o, idxT_eq, idxA_o, idxV1_eq, fld1_eq, fldG_eq, extA_eq, nilCk_o, nilCk_p, strAdd_eq, strCmp_eq, withX_some, withX_none, iaddE, isubE, imulE, iltE, igtE, ileE, igeE, ineE, ibeqE, hget_top, hget_zero, hget_succ, set_top, plains_nil, plains_cons, plain_int, plain_bool, plain_str, plain_nils, plain_slp, plain_sle, plain_nil, plain_pto, plain_ptp, plain_slo, nb_agg, nb_int, nb_bool, nb_str, nb_slp, nb_nils, nb_sle, nb_slo, cells_agg, cells_int, cells_bool, cells_str, List.length_cons, List.length_nil, List.length_append, List.take_succ_cons, List.take_zero, List.drop_succ_cons, List.drop_zero, List.cons_append, List.nil_append, List.append_nil, List.drop_nil, List.take_nil, List.getElem?_cons_zero, List.getElem?_cons_succ, List.set_cons_zero, List.set_cons_succ, Nat.reduceAdd, Nat.reduceMul, Nat.reduceSub, Nat.reduceLeDiff, Nat.reduceEqDiff, Nat.reduceLT, Nat.zero_add, Nat.add_zero, decide_true, decide_false, Bool.and_true, Bool.true_and, Bool.and_false, Bool.false_and, Bool.not_true, Bool.not_false, Nat.le_refl, reduceIte, kLim_0_eq, kLim_1_eq, kLim_2_eq, kLim_3_eq, kLim_4_eq, kLim_5_eq, kLim_6_eq, kLim_7_eq, kLim_8_eq, kLim_9_eq, kLim_10_eq, kLim_11_eq, kLim_12_eq, kLim_13_eq, kLim_14_eq, kLim_ret, kLim_nrm, hq, w1, hmul, z1]
    rfl
theorem bldA_of {place : Nat → Option (Nat × Nat)} {z cs : List AV} {ps : List (Nat × AV)} {h : AH} {κ : Ka} (e : fillA place z ps = some cs) : bldA place z ps h κ = κ (.agg cs) h := by
  unfold bldA
  rw [e]; rfl
def limN (x q : Nat) : Nat := min (min (x * q) 4611686018427387904 + x) 4611686018427387904
theorem limN_le (x q : Nat) : limN x q ≤ 4611686018427387904 := by unfold limN; omega
theorem limN_mono (x q : Nat) : limN x q ≤ limN x (q + 1) := by
  unfold limN
  rw [Nat.mul_succ]
  generalize x * q = p
  omega
theorem limN_step (x q : Nat) (h : limN x (q + 1) < 4611686018427387904) : limN x (q + 1) = limN x q + x := by
  unfold limN at *
  rw [Nat.mul_succ] at *
  generalize x * q = p at *
  omega
theorem limN_small (x q : Nat) (hx : x ≤ 1099511627776) (hq : q ≤ 1000) : limN x q = x * (q + 1) ∧ x * (q + 1) ≤ 1100611139403776 := by
  unfold limN
  have : x * q ≤ 1099511627776 * 1000 := Nat.mul_le_mul hx hq
  rw [Nat.mul_succ]
  generalize x * q = p at *
  omega
theorem law_run (mx : Int) (n : Nat) (x : Nat) (hx0 : x ≤ 18446744073709551615) (m : Int) (hm0 : -9223372036854775808 ≤ m) (hm1 : m ≤ 9223372036854775807) :
    ∃ h', (rl (CL mx) (n + 6)).run 3 [.int 18446744073709551615 (x : Int), .int 9223372036854775807 m] [] = some (.bool true, h') := by
  rw [rl_run, kLaw_run _ _ _ _ _ _ (by kernel_rfl) (kLaw_fk mx)]
  have hhead := fun h => callA_memo (C := CL mx) (run := (rl (CL mx) (n + 5)).run) (h := h) (f := 5) (args := []) (v := .bool true) (by kernel_rfl) (by kernel_rfl) (by kernel_rfl)
  by_cases hx : (4611686018427387904 : Int) < (x : Int)
  · apply Exists.intro
    simp only [guardC_b, guardC_u, beqB_tt, beqB_tf, beqB_ft, beqB_ff, min_eq, max_eq, vhO_kVH, ckX_same, bldS_int2, lt_agg, lt_tup, lt_int, lt_bool, lt_str, lt_nils, lt_sle, lt_nil, lt_slp, lt_ptp, kNrm_st, obindS, obindN, kThen_nrm, kThen_ret, kThen_exit, kOut_nrm, kOut_ret, kOut_exit, kIf_b, bqT, bqF, moveA_eq, pickA_eq, boxA_eq, newA_eq, cmp_eq, arith_eq, remA_eq, quoA_eq, notA_eq, negA_eq, cvI_eq, moveP_o, moveP_p, blkC_cells, load1_o, load1_p, loadG_o, loadG_p, store1_o, storeG_o, lenS_nils, lenS_sle, lenS_p, lenS_o, lenT_eq, idxS_p, idxS_o, idxT_eq, idxA_o, idxV1_eq, fld1_eq, fldG_eq, extA_eq, nilCk_o, nilCk_p, strAdd_eq, strCmp_eq, withX_some, withX_none, iaddE, isubE, imulE, iltE, igtE, ileE, igeE, ineE, ibeqE, hget_top, hget_zero, hget_succ, set_top, plains_nil, plains_cons, plain_int, plain_bool, plain_str, plain_nils, plain_slp, plain_sle, plain_nil, plain_pto, plain_ptp, plain_slo, nb_agg, nb_int, nb_bool, nb_str, nb_slp, nb_nils, nb_sle, nb_slo, cells_agg, cells_int, cells_bool, cells_str, List.length_cons, List.length_nil, List.length_append, List.take_succ_cons, List.take_zero, List.drop_succ_cons, List.drop_zero, List.cons_append, List.nil_append, List.append_nil, List.drop_nil, List.take_nil, List.getElem?_cons_zero, List.getElem?_cons_succ, List.set_cons_zero, List.set_cons_succ, Nat.reduceAdd, Nat.reduceMul, Nat.reduceSub, Nat.reduceLeDiff, Nat.reduceEqDiff, Nat.reduceLT, Nat.zero_add, Nat.add_zero, decide_true, decide_false, Bool.and_true, Bool.true_and, Bool.and_false, Bool.false_and, Bool.not_true, Bool.not_false, Nat.le_refl, reduceIte, kLaw_0_eq, kLaw_1_eq, kLaw_2_eq, kLaw_3_eq, kLaw_4_eq, kLaw_5_eq, kLaw_6_eq, kLaw_7_eq, kLaw_8_eq, kLaw_9_eq, kLaw_10_eq, kLaw_11_eq, kLaw_12_eq, kLaw_13_eq, kLaw_14_eq, kLaw_15_eq, kLaw_17_eq, kLaw_18_eq, kLaw_19_eq, kLaw_20_eq, kLaw_21_eq, kLaw_22_eq, kLaw_23_eq, kLaw_24_eq, kLaw_25_eq, kLaw_26_eq, kLaw_27_eq, kLaw_28_eq, kLaw_29_eq, kLaw_30_eq, kLaw_31_eq, kLaw_32_eq, kLaw_33_eq, kLaw_34_eq, kLaw_35_eq, kLaw_36_eq, kLaw_37_eq, kLaw_38_eq, kLaw_39_eq, kLaw_40_eq, kLaw_ret, kLaw_nrm, hhead, decide_eq_true hx]
    rfl
  by_cases hm : (1099511627776 : Int) < m
  · apply Exists.intro
    simp only [guardC_b, guardC_u, beqB_tt, beqB_tf, beqB_ft, beqB_ff, min_eq, max_eq, vhO_kVH, ckX_same, bldS_int2, lt_agg, lt_tup, lt_int, lt_bool, lt_str, lt_nils, lt_sle, lt_nil, lt_slp, lt_ptp, kNrm_st, obindS, obindN, kThen_nrm, kThen_ret, kThen_exit, kOut_nrm, kOut_ret, kOut_exit, kIf_b, bqT, bqF, moveA_eq, pickA_eq, boxA_eq, newA_eq, cmp_eq, arith_eq, remA_eq, quoA_eq, notA_eq, negA_eq, cvI_eq, moveP_o, moveP_p, blkC_cells, load1_o, load1_p, loadG_o, loadG_p, store1_o, storeG_o, lenS_nils, lenS_sle, lenS_p, lenS_o, lenT_eq, idxS_p, idxS_o, idxT_eq, idxA_o, idxV1_eq, fld1_eq, fldG_eq, extA_eq, nilCk_o, nilCk_p, strAdd_eq, strCmp_eq, withX_some, withX_none, iaddE, isubE, imulE, iltE, igtE, ileE, igeE, ineE, ibeqE, hget_top, hget_zero, hget_succ, set_top, plains_nil, plains_cons, plain_int, plain_bool, plain_str, plain_nils, plain_slp, plain_sle, plain_nil, plain_pto, plain_ptp, plain_slo, nb_agg, nb_int, nb_bool, nb_str, nb_slp, nb_nils, nb_sle, nb_slo, cells_agg, cells_int, cells_bool, cells_str, List.length_cons, List.length_nil, List.length_append, List.take_succ_cons, List.take_zero, List.drop_succ_cons, List.drop_zero, List.cons_append, List.nil_append, List.append_nil, List.drop_nil, List.take_nil, List.getElem?_cons_zero, List.getElem?_cons_succ, List.set_cons_zero, List.set_cons_succ, Nat.reduceAdd, Nat.reduceMul, Nat.reduceSub, Nat.reduceLeDiff, Nat.reduceEqDiff, Nat.reduceLT, Nat.zero_add, Nat.add_zero, decide_true, decide_false, Bool.and_true, Bool.true_and, Bool.and_false, Bool.false_and, Bool.not_true, Bool.not_false, Nat.le_refl, reduceIte, kLaw_0_eq, kLaw_1_eq, kLaw_2_eq, kLaw_3_eq, kLaw_4_eq, kLaw_5_eq, kLaw_6_eq, kLaw_7_eq, kLaw_8_eq, kLaw_9_eq, kLaw_10_eq, kLaw_11_eq, kLaw_12_eq, kLaw_13_eq, kLaw_14_eq, kLaw_15_eq, kLaw_17_eq, kLaw_18_eq, kLaw_19_eq, kLaw_20_eq, kLaw_21_eq, kLaw_22_eq, kLaw_23_eq, kLaw_24_eq, kLaw_25_eq, kLaw_26_eq, kLaw_27_eq, kLaw_28_eq, kLaw_29_eq, kLaw_30_eq, kLaw_31_eq, kLaw_32_eq, kLaw_33_eq, kLaw_34_eq, kLaw_35_eq, kLaw_36_eq, kLaw_37_eq, kLaw_38_eq, kLaw_39_eq, kLaw_40_eq, kLaw_ret, kLaw_nrm, hhead, decide_eq_false hx, decide_eq_true hm]
    rfl
  obtain ⟨q, hq⟩ : ∃ q : Nat, max 0 m = (q : Int) := ⟨(max 0 m).toNat, by omega⟩
  obtain ⟨q', hq'⟩ : ∃ q : Nat, max 0 (m + 1) = (q : Int) := ⟨(max 0 (m + 1)).toNat, by omega⟩
  obtain ⟨h1, e1⟩ := lim_run mx n x (by omega) (.int 9223372036854775807 0) (.int 9223372036854775807 0) m q hq (by omega) []
  obtain ⟨h2, e2⟩ := lim_run mx n x (by omega) (.int 9223372036854775807 0) (.int 9223372036854775807 0) (m + 1) q' hq' (by omega) []
  have k1 := fun h => callA_pure (C := CL mx) (run := (rl (CL mx) (n + 5)).run) (h := h) (by kernel_rfl) (by rfl) (by kernel_rfl) e1 (by rfl)
  have k2 := fun h => callA_pure (C := CL mx) (run := (rl (CL mx) (n + 5)).run) (h := h) (by kernel_rfl) (by rfl) (by kernel_rfl) e2 (by rfl)
  rw [show min (min (x * q) 4611686018427387904 + x) 4611686018427387904 = limN x q from rfl] at k1
  rw [show min (min (x * q') 4611686018427387904 + x) 4611686018427387904 = limN x q' from rfl] at k2
  have w0 : wrapA 9223372036854775807 (m + 1) = m + 1 := wrapA_i64 (by omega) (by omega)
  have hbld := fun h κ => bldA_of (h := h) (κ := κ) (place := placeOf (CL mx) [(0, 22), (1, 3), (2, 3)]) (z := [.int 18446744073709551615 0, .int 9223372036854775807 0, .int 9223372036854775807 0]) (ps := [(0, .int 18446744073709551615 (x : Int))]) (cs := [.int 18446744073709551615 (x : Int), .int 9223372036854775807 0, .int 9223372036854775807 0]) (by kernel_rfl) 
  have hdr := kLaw_16_dr (CL mx) (rl (CL mx) (n + 5)).run (rl (CL mx) (n + 5)).lp [some (Blk.cells [.int 18446744073709551615 (x : Int), .int 9223372036854775807 0, .int 9223372036854775807 0] (25 + 1))]
    (.int 18446744073709551615 (x : Int)) (.int 9223372036854775807 m) (.bool false) (.pto 0 0) .bot .bot (.bool false) (.bool false) .bot .bot
    (.nrm, ⟨kLaw_T (.int 18446744073709551615 (x : Int)) (.int 9223372036854775807 m) (.bool false) (.pto 0 0) (.int 18446744073709551615 (limN x q : Int)) (.int 18446744073709551615 (limN x q' : Int)) (.bool false) (.bool false) .bot .bot, [some (Blk.cells [.int 18446744073709551615 (x : Int), .int 9223372036854775807 0, .int 9223372036854775807 0] (25 + 1))]⟩)
    (by simp only [guardC_b, guardC_u, beqB_tt, beqB_tf, beqB_ft, beqB_ff, min_eq, max_eq, vhO_kVH, ckX_same, bldS_int2, lt_agg, lt_tup, lt_int, lt_bool, lt_str, lt_nils, lt_sle, lt_nil, lt_slp, lt_ptp, kNrm_st, obindS, obindN, kThen_nrm, kThen_ret, kThen_exit, kOut_nrm, kOut_ret, kOut_exit, kIf_b, bqT, bqF, moveA_eq, pickA_eq, boxA_eq, newA_eq, cmp_eq, arith_eq, remA_eq, quoA_eq, notA_eq, negA_eq, cvI_eq, moveP_o, moveP_p, blkC_cells, load1_o, load1_p, loadG_o, loadG_p, store1_o, storeG_o, lenS_nils, lenS_sle, lenS_p, lenS_o, lenT_eq, idxS_p, idxS_o, idxT_eq, idxA_o, idxV1_eq, fld1_eq, fldG_eq, extA_eq, nilCk_o, nilCk_p, strAdd_eq, strCmp_eq, withX_some, withX_none, iaddE, isubE, imulE, iltE, igtE, ileE, igeE, ineE, ibeqE, hget_top, hget_zero, hget_succ, set_top, plains_nil, plains_cons, plain_int, plain_bool, plain_str, plain_nils, plain_slp, plain_sle, plain_nil, plain_pto, plain_ptp, plain_slo, nb_agg, nb_int, nb_bool, nb_str, nb_slp, nb_nils, nb_sle, nb_slo, cells_agg, cells_int, cells_bool, cells_str, List.length_cons, List.length_nil, List.length_append, List.take_succ_cons, List.take_zero, List.drop_succ_cons, List.drop_zero, List.cons_append, List.nil_append, List.append_nil, List.drop_nil, List.take_nil, List.getElem?_cons_zero, List.getElem?_cons_succ, List.set_cons_zero, List.set_cons_succ, Nat.reduceAdd, Nat.reduceMul, Nat.reduceSub, Nat.reduceLeDiff, Nat.reduceEqDiff, Nat.reduceLT, Nat.zero_add, Nat.add_zero, decide_true, decide_false, Bool.and_true, Bool.true_and, Bool.and_false, Bool.false_and, Bool.not_true, Bool.not_false, Nat.le_refl, reduceIte, w0, k1, k2]; rfl)
  have l0 : limN x q ≤ 4611686018427387904 := limN_le x q
  have l1 : limN x q' ≤ 4611686018427387904 := limN_le x q'
  by_cases hn : m < 0
  · obtain rfl : q = 0 := by omega
    have e0 : ((limN x 0 : Nat) : Int) = (x : Int) := by unfold limN; omega
    apply Exists.intro
    simp only [guardC_b, guardC_u, beqB_tt, beqB_tf, beqB_ft, beqB_ff, min_eq, max_eq, vhO_kVH, ckX_same, bldS_int2, lt_agg, lt_tup, lt_int, lt_bool, lt_str, lt_nils, lt_sle, lt_nil, lt_slp, lt_ptp, kNrm_st, obindS, obindN, kThen_nrm, kThen_ret, kThen_exit, kOut_nrm, kOut_ret, kOut_exit, kIf_b, bqT, bqF, moveA_eq, pickA_eq, boxA_eq, newA_eq, cmp_eq, arith_eq, remA_eq, quoA_eq, notA_eq, negA_eq, cvI_eq, moveP_o, moveP_p, blkC_cells, load1_o, load1_p, loadG_o, loadG_p, store1_o, storeG_o, lenS_nils, lenS_sle, lenS_p, lenS_o, lenT_eq, idxS_p, idxS_o, idxT_eq, idxA_o, idxV1_eq, fld1_eq, fldG_eq, extA_eq, nilCk_o, nilCk_p, strAdd_eq, strCmp_eq, withX_some, withX_none, iaddE, isubE, imulE, iltE, igtE, ileE, igeE, ineE, ibeqE, hget_top, hget_zero, hget_succ, set_top, plains_nil, plains_cons, plain_int, plain_bool, plain_str, plain_nils, plain_slp, plain_sle, plain_nil, plain_pto, plain_ptp, plain_slo, nb_agg, nb_int, nb_bool, nb_str, nb_slp, nb_nils, nb_sle, nb_slo, cells_agg, cells_int, cells_bool, cells_str, List.length_cons, List.length_nil, List.length_append, List.take_succ_cons, List.take_zero, List.drop_succ_cons, List.drop_zero, List.cons_append, List.nil_append, List.append_nil, List.drop_nil, List.take_nil, List.getElem?_cons_zero, List.getElem?_cons_succ, List.set_cons_zero, List.set_cons_succ, Nat.reduceAdd, Nat.reduceMul, Nat.reduceSub, Nat.reduceLeDiff, Nat.reduceEqDiff, Nat.reduceLT, Nat.zero_add, Nat.add_zero, decide_true, decide_false, Bool.and_true, Bool.true_and, Bool.and_false, Bool.false_and, Bool.not_true, Bool.not_false, Nat.le_refl, reduceIte, kLaw_0_eq, kLaw_1_eq, kLaw_2_eq, kLaw_3_eq, kLaw_4_eq, kLaw_5_eq, kLaw_6_eq, kLaw_7_eq, kLaw_8_eq, kLaw_9_eq, kLaw_10_eq, kLaw_11_eq, kLaw_12_eq, kLaw_13_eq, kLaw_14_eq, kLaw_15_eq, kLaw_17_eq, kLaw_18_eq, kLaw_19_eq, kLaw_20_eq, kLaw_21_eq, kLaw_22_eq, kLaw_23_eq, kLaw_24_eq, kLaw_25_eq, kLaw_26_eq, kLaw_27_eq, kLaw_28_eq, kLaw_29_eq, kLaw_30_eq, kLaw_31_eq, kLaw_32_eq, kLaw_33_eq, kLaw_34_eq, kLaw_35_eq, kLaw_36_eq, kLaw_37_eq, kLaw_38_eq, kLaw_39_eq, kLaw_40_eq, kLaw_ret, kLaw_nrm, hhead, decide_eq_false hx, decide_eq_false hm, hbld, hdr, decide_eq_true hn, decide_eq_true e0]
    rfl
  obtain rfl : q' = q + 1 := by omega
  have hmn := limN_mono x q
  have f1 : ¬ (((limN x (q + 1) : Nat) : Int) < ((limN x q : Nat) : Int)) := by omega
  have f2 : ¬ ((4611686018427387904 : Int) < ((limN x q : Nat) : Int)) := by omega
  have w1 : wrapA 18446744073709551615 (((limN x (q + 1) : Nat) : Int) - ((limN x q : Nat) : Int)) = ((limN x (q + 1) : Nat) : Int) - ((limN x q : Nat) : Int) := wrapA_le (by omega) (by omega)
  have w2 : wrapA 18446744073709551615 (m + 1) = m + 1 := wrapA_le (by omega) (by omega)
  have fin : ∀ v47 h, ∃ h', obind (kx (CL mx) (rl (CL mx) (n + 5)).run (rl (CL mx) (n + 5)).lp (kLaw_33 (CL mx)) ⟨kLaw_T (.int 18446744073709551615 (x : Int)) (.int 9223372036854775807 m) (.bool false) (.pto 0 0) (.int 18446744073709551615 (limN x q : Int)) (.int 18446744073709551615 (limN x (q + 1) : Int)) (.bool false) (.bool false) (.bool false) v47, h⟩) (endA (CL mx) [ResultVar.tmp 4]) = some (.bool true, h') := by
    intro v47 h
    by_cases g1 : (1000 : Int) < m
    · apply Exists.intro
      simp only [guardC_b, guardC_u, beqB_tt, beqB_tf, beqB_ft, beqB_ff, min_eq, max_eq, vhO_kVH, ckX_same, bldS_int2, lt_agg, lt_tup, lt_int, lt_bool, lt_str, lt_nils, lt_sle, lt_nil, lt_slp, lt_ptp, kNrm_st, obindS, obindN, kThen_nrm, kThen_ret, kThen_exit, kOut_nrm, kOut_ret, kOut_exit, kIf_b, bqT, bqF, moveA_eq, pickA_eq, boxA_eq, newA_eq, cmp_eq, arith_eq, remA_eq, quoA_eq, notA_eq, negA_eq, cvI_eq, moveP_o, moveP_p, blkC_cells, load1_o, load1_p, loadG_o, loadG_p, store1_o, storeG_o, lenS_nils, lenS_sle, lenS_p, lenS_o, lenT_eq, idxS_p, idxS_o, idxT_eq, idxA_o, idxV1_eq, fld1_eq, fldG_eq, extA_eq, nilCk_o, nilCk_p, strAdd_eq, strCmp_eq, withX_some, withX_none, iaddE, isubE, imulE, iltE, igtE, ileE, igeE, ineE, ibeqE, hget_top, hget_zero, hget_succ, set_top, plains_nil, plains_cons, plain_int, plain_bool, plain_str, plain_nils, plain_slp, plain_sle, plain_nil, plain_pto, plain_ptp, plain_slo, nb_agg, nb_int, nb_bool, nb_str, nb_slp, nb_nils, nb_sle, nb_slo, cells_agg, cells_int, cells_bool, cells_str, List.length_cons, List.length_nil, List.length_append, List.take_succ_cons, List.take_zero, List.drop_succ_cons, List.drop_zero, List.cons_append, List.nil_append, List.append_nil, List.drop_nil, List.take_nil, List.getElem?_cons_zero, List.getElem?_cons_succ, List.set_cons_zero, List.set_cons_succ, Nat.reduceAdd, Nat.reduceMul, Nat.reduceSub, Nat.reduceLeDiff, Nat.reduceEqDiff, Nat.reduceLT, Nat.zero_add, Nat.add_zero, decide_true, decide_false, Bool.and_true, Bool.true_and, Bool.and_false, Bool.false_and, Bool.not_true, Bool.not_false, Nat.le_refl, reduceIte, kLaw_0_eq, kLaw_1_eq, kLaw_2_eq, kLaw_3_eq, kLaw_4_eq, kLaw_5_eq, kLaw_6_eq, kLaw_7_eq, kLaw_8_eq, kLaw_9_eq, kLaw_10_eq, kLaw_11_eq, kLaw_12_eq, kLaw_13_eq, kLaw_14_eq, kLaw_15_eq, kLaw_17_eq, kLaw_18_eq, kLaw_19_eq, kLaw_20_eq, kLaw_21_eq, kLaw_22_eq, kLaw_23_eq, kLaw_24_eq, kLaw_25_eq, kLaw_26_eq, kLaw_27_eq, kLaw_28_eq, kLaw_29_eq, kLaw_30_eq, kLaw_31_eq, kLaw_32_eq, kLaw_33_eq, kLaw_34_eq, kLaw_35_eq, kLaw_36_eq, kLaw_37_eq, kLaw_38_eq, kLaw_39_eq, kLaw_40_eq, kLaw_ret, kLaw_nrm, decide_eq_true g1]
      rfl
    by_cases g2 : (1099511627776 : Int) < (x : Int)
    · apply Exists.intro
      simp only [guardC_b, guardC_u, beqB_tt, beqB_tf, beqB_ft, beqB_ff, min_eq, max_eq, vhO_kVH, ckX_same, bldS_int2, lt_agg, lt_tup, lt_int, lt_bool, lt_str, lt_nils, lt_sle, lt_nil, lt_slp, lt_ptp, kNrm_st, obindS, obindN, kThen_nrm, kThen_ret, kThen_exit, kOut_nrm, kOut_ret, kOut_exit, kIf_b, bqT, bqF, moveA_eq, pickA_eq, boxA_eq, newA_eq, cmp_eq, arith_eq, remA_eq, quoA_eq, notA_eq, negA_eq, cvI_eq, moveP_o, moveP_p, blkC_cells, load1_o, load1_p, loadG_o, loadG_p, store1_o, storeG_o, lenS_nils, lenS_sle, lenS_p, lenS_o, lenT_eq, idxS_p, idxS_o, idxT_eq, idxA_o, idxV1_eq, fld1_eq, fldG_eq, extA_eq, nilCk_o, nilCk_p, strAdd_eq, strCmp_eq, withX_some, withX_none, iaddE, isubE, imulE, iltE, igtE, ileE, igeE, ineE, ibeqE, hget_top, hget_zero, hget_succ, set_top, plains_nil, plains_cons, plain_int, plain_bool, plain_str, plain_nils, plain_slp, plain_sle, plain_nil, plain_pto, plain_ptp, plain_slo, nb_agg, nb_int, nb_bool, nb_str, nb_slp, nb_nils, nb_sle, nb_slo, cells_agg, cells_int, cells_bool, cells_str, List.length_cons, List.length_nil, List.length_append, List.take_succ_cons, List.take_zero, List.drop_succ_cons, List.drop_zero, List.cons_append, List.nil_append, List.append_nil, List.drop_nil, List.take_nil, List.getElem?_cons_zero, List.getElem?_cons_succ, List.set_cons_zero, List.set_cons_succ, Nat.reduceAdd, Nat.reduceMul, Nat.reduceSub, Nat.reduceLeDiff, Nat.reduceEqDiff, Nat.reduceLT, Nat.zero_add, Nat.add_zero, decide_true, decide_false, Bool.and_true, Bool.true_and, Bool.and_false, Bool.false_and, Bool.not_true, Bool.not_false, Nat.le_refl, reduceIte, kLaw_0_eq, kLaw_1_eq, kLaw_2_eq, kLaw_3_eq, kLaw_4_eq, kLaw_5_eq, kLaw_6_eq, kLaw_7_eq, kLaw_8_eq, kLaw_9_eq, kLaw_10_eq, kLaw_11_eq, kLaw_12_eq, kLaw_13_eq, kLaw_14_eq, kLaw_15_eq, kLaw_17_eq, kLaw_18_eq, kLaw_19_eq, kLaw_20_eq, kLaw_21_eq, kLaw_22_eq, kLaw_23_eq, kLaw_24_eq, kLaw_25_eq, kLaw_26_eq, kLaw_27_eq, kLaw_28_eq, kLaw_29_eq, kLaw_30_eq, kLaw_31_eq, kLaw_32_eq, kLaw_33_eq, kLaw_34_eq, kLaw_35_eq, kLaw_36_eq, kLaw_37_eq, kLaw_38_eq, kLaw_39_eq, kLaw_40_eq, kLaw_ret, kLaw_nrm, decide_eq_false g1, decide_eq_true g2]
      rfl
    obtain ⟨s1, s2⟩ := limN_small x q (by omega) (by omega)
    have w3 : wrapA 18446744073709551615 ((x : Int) * (m + 1)) = (x : Int) * (m + 1) := by
      rw [show (x : Int) * (m + 1) = ((x * (q + 1) : Nat) : Int) by rw [show m = (q : Int) by omega]; push_cast; rfl]
      exact wrapA_nat (by omega)
    have g3 : ((limN x q : Nat) : Int) = (x : Int) * (m + 1) := by
      rw [s1, show m = (q : Int) by omega]; push_cast; rfl
    apply Exists.intro
    simp only [guardC_b, guardC_u, beqB_tt, beqB_tf, beqB_ft, beqB_ff, min_eq, max_eq, vhO_kVH, ckX_same, bldS_int2, lt_agg, lt_tup, lt_int, lt_bool, lt_str, lt_nils, lt_sle, lt_nil, lt_slp, lt_ptp, kNrm_st, obindS, obindN, kThen_nrm, kThen_ret, kThen_exit, kOut_nrm, kOut_ret, kOut_exit, kIf_b, bqT, bqF, moveA_eq, pickA_eq, boxA_eq, newA_eq, cmp_eq, arith_eq, remA_eq, quoA_eq, notA_eq, negA_eq, cvI_eq, moveP_o, moveP_p, blkC_cells, load1_o, load1_p, loadG_o, loadG_p, store1_o, storeG_o, lenS_nils, lenS_sle, lenS_p, lenS_o, lenT_eq, idxS_p, idxS_o, idxT_eq, idxA_o, idxV1_eq, fld1_eq, fldG_eq, extA_eq, nilCk_o, nilCk_p, strAdd_eq, strCmp_eq, withX_some, withX_none, iaddE, isubE, imulE, iltE, igtE, ileE, igeE, ineE, ibeqE, hget_top, hget_zero, hget_succ, set_top, plains_nil, plains_cons, plain_int, plain_bool, plain_str, plain_nils, plain_slp, plain_sle, plain_nil, plain_pto, plain_ptp, plain_slo, nb_agg, nb_int, nb_bool, nb_str, nb_slp, nb_nils, nb_sle, nb_slo, cells_agg, cells_int, cells_bool, cells_str, List.length_cons, List.length_nil, List.length_append, List.take_succ_cons, List.take_zero, List.drop_succ_cons, List.drop_zero, List.cons_append, List.nil_append, List.append_nil, List.drop_nil, List.take_nil, List.getElem?_cons_zero, List.getElem?_cons_succ, List.set_cons_zero, List.set_cons_succ, Nat.reduceAdd, Nat.reduceMul, Nat.reduceSub, Nat.reduceLeDiff, Nat.reduceEqDiff, Nat.reduceLT, Nat.zero_add, Nat.add_zero, decide_true, decide_false, Bool.and_true, Bool.true_and, Bool.and_false, Bool.false_and, Bool.not_true, Bool.not_false, Nat.le_refl, reduceIte, kLaw_0_eq, kLaw_1_eq, kLaw_2_eq, kLaw_3_eq, kLaw_4_eq, kLaw_5_eq, kLaw_6_eq, kLaw_7_eq, kLaw_8_eq, kLaw_9_eq, kLaw_10_eq, kLaw_11_eq, kLaw_12_eq, kLaw_13_eq, kLaw_14_eq, kLaw_15_eq, kLaw_17_eq, kLaw_18_eq, kLaw_19_eq, kLaw_20_eq, kLaw_21_eq, kLaw_22_eq, kLaw_23_eq, kLaw_24_eq, kLaw_25_eq, kLaw_26_eq, kLaw_27_eq, kLaw_28_eq, kLaw_29_eq, kLaw_30_eq, kLaw_31_eq, kLaw_32_eq, kLaw_33_eq, kLaw_34_eq, kLaw_35_eq, kLaw_36_eq, kLaw_37_eq, kLaw_38_eq, kLaw_39_eq, kLaw_40_eq, kLaw_ret, kLaw_nrm, decide_eq_false g1, decide_eq_false g2, w0, w2, w3, decide_eq_true g3]
    rfl
  by_cases g : ((limN x (q + 1) : Nat) : Int) < 4611686018427387904
  · have hs := limN_step x q (by omega)
    have f3 : ¬ (((limN x (q + 1) : Nat) : Int) - ((limN x q : Nat) : Int) ≠ (x : Int)) := by omega
    obtain ⟨h', e⟩ := fin (.bool false) [some (Blk.cells [.int 18446744073709551615 (x : Int), .int 9223372036854775807 0, .int 9223372036854775807 0] (25 + 1))]
    refine ⟨h', ?_⟩
    simp only [guardC_b, guardC_u, beqB_tt, beqB_tf, beqB_ft, beqB_ff, min_eq, max_eq, vhO_kVH, ckX_same, bldS_int2, lt_agg, lt_tup, lt_int, lt_bool, lt_str, lt_nils, lt_sle, lt_nil, lt_slp, lt_ptp, kNrm_st, obindS, obindN, kThen_nrm, kThen_ret, kThen_exit, kOut_nrm, kOut_ret, kOut_exit, kIf_b, bqT, bqF, moveA_eq, pickA_eq, boxA_eq, newA_eq, cmp_eq, arith_eq, remA_eq, quoA_eq, notA_eq, negA_eq, cvI_eq, moveP_o, moveP_p, blkC_cells, load1_o, load1_p, loadG_o, loadG_p, store1_o, storeG_o, lenS_nils, lenS_sle, lenS_p, lenS_o, lenT_eq, idxS_p, idxS_o, idxT_eq, idxA_o, idxV1_eq, fld1_eq, fldG_eq, extA_eq, nilCk_o, nilCk_p, strAdd_eq, strCmp_eq, withX_some, withX_none, iaddE, isubE, imulE, iltE, igtE, ileE, igeE, ineE, ibeqE, hget_top, hget_zero, hget_succ, set_top, plains_nil, plains_cons, plain_int, plain_bool, plain_str, plain_nils, plain_slp, plain_sle, plain_nil, plain_pto, plain_ptp, plain_slo, nb_agg, nb_int, nb_bool, nb_str, nb_slp, nb_nils, nb_sle, nb_slo, cells_agg, cells_int, cells_bool, cells_str, List.length_cons, List.length_nil, List.length_append, List.take_succ_cons, List.take_zero, List.drop_succ_cons, List.drop_zero, List.cons_append, List.nil_append, List.append_nil, List.drop_nil, List.take_nil, List.getElem?_cons_zero, List.getElem?_cons_succ, List.set_cons_zero, List.set_cons_succ, Nat.reduceAdd, Nat.reduceMul, Nat.reduceSub, Nat.reduceLeDiff, Nat.reduceEqDiff, Nat.reduceLT, Nat.zero_add, Nat.add_zero, decide_true, decide_false, Bool.and_true, Bool.true_and, Bool.and_false, Bool.false_and, Bool.not_true, Bool.not_false, Nat.le_refl, reduceIte, kLaw_0_eq, kLaw_1_eq, kLaw_2_eq, kLaw_3_eq, kLaw_4_eq, kLaw_5_eq, kLaw_6_eq, kLaw_7_eq, kLaw_8_eq, kLaw_9_eq, kLaw_10_eq, kLaw_11_eq, kLaw_12_eq, kLaw_13_eq, kLaw_14_eq, kLaw_15_eq, kLaw_17_eq, kLaw_18_eq, kLaw_19_eq, kLaw_20_eq, kLaw_21_eq, kLaw_22_eq, kLaw_23_eq, kLaw_24_eq, kLaw_25_eq, kLaw_26_eq, kLaw_27_eq, kLaw_28_eq, kLaw_29_eq, kLaw_30_eq, kLaw_31_eq, kLaw_32_eq, kLaw_33_eq, kLaw_34_eq, kLaw_35_eq, kLaw_36_eq, kLaw_37_eq, kLaw_38_eq, kLaw_39_eq, kLaw_40_eq, kLaw_ret, kLaw_nrm, -kLaw_33_eq, hhead, decide_eq_false hx, decide_eq_false hm, hbld, hdr, decide_eq_false hn, decide_eq_true g, w1, decide_eq_false f1, decide_eq_false f2, decide_eq_false f3]
    exact e
  · obtain ⟨h', e⟩ := fin (.bool false) [some (Blk.cells [.int 18446744073709551615 (x : Int), .int 9223372036854775807 0, .int 9223372036854775807 0] (25 + 1))]
    refine ⟨h', ?_⟩
    simp only [guardC_b, guardC_u, beqB_tt, beqB_tf, beqB_ft, beqB_ff, min_eq, max_eq, vhO_kVH, ckX_same, bldS_int2, lt_agg, lt_tup, lt_int, lt_bool, lt_str, lt_nils, lt_sle, lt_nil, lt_slp, lt_ptp, kNrm_st, obindS, obindN, kThen_nrm, kThen_ret, kThen_exit, kOut_nrm, kOut_ret, kOut_exit, kIf_b, bqT, bqF, moveA_eq, pickA_eq, boxA_eq, newA_eq, cmp_eq, arith_eq, remA_eq, quoA_eq, notA_eq, negA_eq, cvI_eq, moveP_o, moveP_p, blkC_cells, load1_o, load1_p, loadG_o, loadG_p, store1_o, storeG_o, lenS_nils, lenS_sle, lenS_p, lenS_o, lenT_eq, idxS_p, idxS_o, idxT_eq, idxA_o, idxV1_eq, fld1_eq, fldG_eq, extA_eq, nilCk_o, nilCk_p, strAdd_eq, strCmp_eq, withX_some, withX_none, iaddE, isubE, imulE, iltE, igtE, ileE, igeE, ineE, ibeqE, hget_top, hget_zero, hget_succ, set_top, plains_nil, plains_cons, plain_int, plain_bool, plain_str, plain_nils, plain_slp, plain_sle, plain_nil, plain_pto, plain_ptp, plain_slo, nb_agg, nb_int, nb_bool, nb_str, nb_slp, nb_nils, nb_sle, nb_slo, cells_agg, cells_int, cells_bool, cells_str, List.length_cons, List.length_nil, List.length_append, List.take_succ_cons, List.take_zero, List.drop_succ_cons, List.drop_zero, List.cons_append, List.nil_append, List.append_nil, List.drop_nil, List.take_nil, List.getElem?_cons_zero, List.getElem?_cons_succ, List.set_cons_zero, List.set_cons_succ, Nat.reduceAdd, Nat.reduceMul, Nat.reduceSub, Nat.reduceLeDiff, Nat.reduceEqDiff, Nat.reduceLT, Nat.zero_add, Nat.add_zero, decide_true, decide_false, Bool.and_true, Bool.true_and, Bool.and_false, Bool.false_and, Bool.not_true, Bool.not_false, Nat.le_refl, reduceIte, kLaw_0_eq, kLaw_1_eq, kLaw_2_eq, kLaw_3_eq, kLaw_4_eq, kLaw_5_eq, kLaw_6_eq, kLaw_7_eq, kLaw_8_eq, kLaw_9_eq, kLaw_10_eq, kLaw_11_eq, kLaw_12_eq, kLaw_13_eq, kLaw_14_eq, kLaw_15_eq, kLaw_17_eq, kLaw_18_eq, kLaw_19_eq, kLaw_20_eq, kLaw_21_eq, kLaw_22_eq, kLaw_23_eq, kLaw_24_eq, kLaw_25_eq, kLaw_26_eq, kLaw_27_eq, kLaw_28_eq, kLaw_29_eq, kLaw_30_eq, kLaw_31_eq, kLaw_32_eq, kLaw_33_eq, kLaw_34_eq, kLaw_35_eq, kLaw_36_eq, kLaw_37_eq, kLaw_38_eq, kLaw_39_eq, kLaw_40_eq, kLaw_ret, kLaw_nrm, -kLaw_33_eq, hhead, decide_eq_false hx, decide_eq_false hm, hbld, hdr, decide_eq_false hn, decide_eq_false g, w1, decide_eq_false f1, decide_eq_false f2]
    exact e
set_option maxRecDepth 100000 in
theorem CostLimits_calls {W : World} {args : Array Value} {a0 a1 : AV} {n0 n1 : Nat} {mx : Int} (I : Inv (C0 mx) (· < W.heap.size) W ρ0 []) (hv : VL (· < W.heap.size) W [a0, a1] ρ0 args.toList)
    (t0 : TyV Tryz.prog n0 22 a0) (t1 : TyV Tryz.prog n1 3 a1) : Calls Tryz.prog 3 args W fun e w' => e = .returned (.bool true) ∧ RowKit.Below W.heap.size W w' := by
  obtain ⟨x, rfl, wx⟩ := TyV.int_ Tryz.underlying22 t0
  obtain ⟨m, rfl, wm⟩ := TyV.int_ Tryz.underlying3 t1
  obtain ⟨x0, x1⟩ := Go.bounds_u64 wx
  obtain ⟨m0, m1⟩ := Go.bounds_i64 wm
  obtain ⟨x, rfl⟩ : ∃ q : Nat, x = (q : Int) := ⟨x.toNat, by omega⟩
  obtain ⟨h', e⟩ := law_run mx 194 x (by omega) m (by omega) (by omega)
  exact calls_of_run (runN_ok cl_ok 200 _ _ _ _ _ e) (I.of_gl (told_gl _ _)) hv
end Go.Proofs.YtgkldjllknidkaaGreatDoor
