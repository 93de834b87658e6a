/- The law CostKinds: its run. The functions' equations are printed by a program. -/
import Derived.Test.YtgkldjllknidkaaGreatDoorMF
import Derived.Test.YtgkldjllknidkaaGreatDoorCo
import Derived.Test.YtgkldjllknidkaaGreatDoorME
namespace Go.Proofs.YtgkldjllknidkaaGreatDoor
set_option linter.unusedSimpArgs false
set_option linter.unusedVariables false
set_option linter.unnecessarySimpa false
noncomputable section
/-- The context in which the head is told ahead. -/
def CL (mx : Int) : Cx := (C0 mx).told (.nd 18 (.lf 5 [([], .bool true)]) (.lf 18 [cop10]))
/- guipure/guipurelaw25.CostKinds -/
def kLaw_T (v0 v1 v2 v3 v4 v5 v6 v8 v10 v14 v18 v20 v29 v34 v35 v36 v37 v43 v51 : AV) : Tm := (.nd 14 (.nd 4 (.nd 2 (.nd 1 (.lf 0 v0) (.lf 1 v1)) (.nd 3 (.lf 2 v2) (.lf 3 v3))) (.nd 6 (.nd 5 (.lf 4 v4) (.lf 5 v5)) (.nd 8 (.lf 6 v6) (.nd 10 (.lf 8 v8) (.lf 10 v10))))) (.nd 35 (.nd 20 (.nd 18 (.lf 14 v14) (.lf 18 v18)) (.nd 29 (.lf 20 v20) (.nd 34 (.lf 29 v29) (.lf 34 v34)))) (.nd 37 (.nd 36 (.lf 35 v35) (.lf 36 v36)) (.nd 43 (.lf 37 v37) (.nd 51 (.lf 43 v43) (.lf 51 v51))))))
def kLaw_Z36 : List AV := [.int 9223372036854775807 0, .int 9223372036854775807 0, .int 9223372036854775807 0, .bool false, .int 18446744073709551615 0, .int 18446744073709551615 0, .int 18446744073709551615 0, .int 18446744073709551615 0, .nils, .int 255 0, .int 255 0, .int 255 0, .int 255 0, .int 255 0, .int 255 0, .int 255 0, .int 255 0, .int 255 0, .int 255 0, .int 255 0, .int 255 0, .int 255 0, .int 255 0, .int 255 0, .int 255 0, .int 255 0, .int 255 0, .int 255 0, .int 255 0, .int 255 0, .int 255 0, .int 255 0, .int 255 0, .int 255 0, .int 255 0, .int 255 0, .int 255 0, .int 255 0, .int 255 0, .int 255 0, .int 255 0, .int 255 0, .int 255 0, .int 255 0, .int 255 0, .int 255 0, .int 255 0, .int 255 0, .int 255 0, .int 255 0, .int 255 0, .int 255 0, .int 255 0, .int 255 0, .int 255 0, .int 255 0, .int 255 0, .int 255 0, .int 255 0, .int 255 0, .int 255 0, .int 255 0, .int 255 0, .int 255 0, .int 255 0, .int 255 0, .int 255 0, .int 255 0, .int 255 0, .int 255 0, .int 255 0, .int 255 0, .int 255 0, .int 255 0, .int 255 0, .int 255 0, .int 255 0, .int 255 0, .int 255 0, .int 255 0, .int 255 0, .int 255 0, .int 255 0, .int 255 0, .int 255 0, .int 255 0, .int 255 0, .int 255 0, .int 255 0, .int 255 0, .int 255 0, .int 255 0, .int 255 0, .int 255 0, .int 255 0, .int 255 0, .int 255 0, .int 255 0, .int 255 0, .int 255 0, .int 255 0, .int 255 0, .int 255 0, .int 255 0, .int 255 0, .int 255 0, .int 255 0, .int 255 0, .int 255 0, .int 255 0, .int 255 0, .int 255 0, .int 255 0, .int 255 0, .int 255 0, .int 255 0, .int 255 0, .int 255 0, .int 255 0, .int 255 0, .int 255 0, .int 255 0, .int 255 0, .int 255 0, .int 255 0, .int 255 0, .int 255 0, .int 255 0, .int 255 0, .int 255 0, .int 255 0, .int 255 0, .int 255 0, .int 255 0, .int 255 0, .int 255 0, .int 255 0, .int 255 0, .int 255 0, .int 255 0, .int 255 0, .int 255 0, .int 255 0, .int 255 0, .int 255 0, .int 255 0, .int 255 0, .int 255 0, .int 255 0, .int 255 0, .int 255 0, .int 255 0, .int 255 0, .int 255 0, .int 255 0, .int 255 0, .int 255 0, .int 255 0, .int 255 0, .int 255 0, .int 255 0, .int 255 0, .int 255 0, .int 255 0, .int 255 0, .int 255 0, .int 255 0, .int 255 0, .int 255 0, .int 255 0, .int 255 0, .int 255 0, .int 255 0, .int 255 0, .int 255 0, .int 255 0, .int 255 0, .int 255 0, .int 255 0, .int 255 0, .int 255 0, .int 255 0, .int 255 0, .int 255 0, .int 255 0, .int 255 0, .int 255 0, .int 255 0, .int 255 0, .int 255 0, .int 255 0, .int 255 0, .int 255 0, .int 255 0, .int 255 0, .int 255 0, .int 255 0, .int 255 0, .int 255 0, .int 255 0, .int 255 0, .int 255 0, .int 255 0, .int 255 0, .int 255 0, .int 255 0, .int 255 0, .int 255 0, .int 255 0, .int 255 0, .int 255 0, .int 255 0, .int 255 0, .int 255 0, .int 255 0, .int 255 0, .int 255 0, .int 255 0, .int 255 0, .int 255 0, .int 255 0, .int 255 0, .int 255 0, .int 255 0, .int 255 0, .int 255 0, .int 255 0, .int 255 0, .int 255 0, .int 255 0, .int 255 0, .int 255 0, .int 255 0, .int 255 0, .int 255 0, .int 255 0, .int 255 0, .int 255 0, .int 255 0, .int 255 0, .int 255 0, .int 255 0, .int 255 0, .int 255 0, .int 255 0, .int 255 0, .int 255 0, .int 255 0, .int 255 0, .int 255 0, .int 255 0, .int 255 0, .int 255 0, .int 255 0, .int 255 0, .int 255 0, .int 255 0, .int 255 0, .int 255 0, .int 255 0, .int 255 0, .int 255 0, .int 255 0, .int 255 0, .int 255 0]
section
variable (C : Cx) (run : Run) (lp : Lp) (s : St) (h : AH) (v0 v1 v2 v3 v4 v5 v6 v8 v10 v14 v18 v20 v29 v34 v35 v36 v37 v43 v51 : AV)
def kLaw_0 (C : Cx) : K := .reg [.mk (o1 (boxA 31) (.tr 0)), .mk (o1 moveA (.cst (.bool false)))] [(2, 0), (1, 1)]
theorem kLaw_0_eq : kx C run lp (kLaw_0 C) ⟨kLaw_T v0 v1 v2 v3 v4 v5 v6 v8 v10 v14 v18 v20 v29 v34 v35 v36 v37 v43 v51, h⟩ = kNrm (boxA 31 v0 h (fun a0 h => moveA (.bool false) h (fun a1 h => some (.st (kLaw_T v0 a0 a1 v3 v4 v5 v6 v8 v10 v14 v18 v20 v29 v34 v35 v36 v37 v43 v51) h)))) := (rfl)
def kLaw_1 (C : Cx) : K := .reg [.mk (oCallF 5 []), .mk (o1 notA (.st 0))] [(10, 0)]
theorem kLaw_1_eq : kx C run lp (kLaw_1 C) ⟨kLaw_T v0 v1 v2 v3 v4 v5 v6 v8 v10 v14 v18 v20 v29 v34 v35 v36 v37 v43 v51, h⟩ = kNrm (withX (fun a0 h => notA a0 h (fun a1 h => some (.st (kLaw_T v0 v1 v2 v3 v4 v5 v6 v8 a1 v14 v18 v20 v29 v34 v35 v36 v37 v43 v51) h))) (callA C run 5 [] h)) := (rfl)
def kLaw_2 (C : Cx) : K := .reg [.mk (o1 moveA (.cst (.bool false)))] [(2, 0)]
theorem kLaw_2_eq : kx C run lp (kLaw_2 C) ⟨kLaw_T v0 v1 v2 v3 v4 v5 v6 v8 v10 v14 v18 v20 v29 v34 v35 v36 v37 v43 v51, h⟩ = kNrm (moveA (.bool false) h (fun a0 h => some (.st (kLaw_T v0 v1 a0 v3 v4 v5 v6 v8 v10 v14 v18 v20 v29 v34 v35 v36 v37 v43 v51) h))) := (rfl)
def kLaw_3 (_ : Cx) : K := .ex .ret
theorem kLaw_3_eq : kx C run lp (kLaw_3 C) s = some (.ret, s) := (rfl)
def kLaw_4 (C : Cx) : K := .seq (kLaw_2 C) (kLaw_3 C)
theorem kLaw_4_eq : kx C run lp (kLaw_4 C) s = obind (kx C run lp (kLaw_2 C) s) (kThen (kx C run lp (kLaw_3 C))) := (rfl)
def kLaw_5 (_ : Cx) : K := .skip
theorem kLaw_5_eq : kx C run lp (kLaw_5 C) s = some (.nrm, s) := (rfl)
def kLaw_6 (C : Cx) : K := .cond (.tr 10) (kLaw_4 C) (kLaw_5 C)
theorem kLaw_6_eq : kx C run lp (kLaw_6 C) ⟨kLaw_T v0 v1 v2 v3 v4 v5 v6 v8 v10 v14 v18 v20 v29 v34 v35 v36 v37 v43 v51, h⟩ = kIf v10 (kx C run lp (kLaw_4 C)) (kx C run lp (kLaw_5 C)) ⟨kLaw_T v0 v1 v2 v3 v4 v5 v6 v8 v10 v14 v18 v20 v29 v34 v35 v36 v37 v43 v51, h⟩ := (rfl)
def kLaw_7 (C : Cx) : K := .seq (kLaw_1 C) (kLaw_6 C)
theorem kLaw_7_eq : kx C run lp (kLaw_7 C) s = obind (kx C run lp (kLaw_1 C) s) (kThen (kx C run lp (kLaw_6 C))) := (rfl)
def kLaw_8 (C : Cx) : K := .reg [.mk (o1 (moveP 0) (.tr 1)), .mk (o1 load1 (.st 0)), .mk (o1 lenS (.st 0)), .mk (o2 (cmp igt) (.st 0) (.cst (.int 9223372036854775807 500)))] [(14, 0)]
theorem kLaw_8_eq : kx C run lp (kLaw_8 C) ⟨kLaw_T v0 v1 v2 v3 v4 v5 v6 v8 v10 v14 v18 v20 v29 v34 v35 v36 v37 v43 v51, h⟩ = kNrm (moveP 0 v1 h (fun a0 h => load1 a0 h (fun a1 h => lenS a1 h (fun a2 h => cmp igt a2 (.int 9223372036854775807 500) h (fun a3 h => some (.st (kLaw_T v0 v1 v2 v3 v4 v5 v6 v8 v10 a3 v18 v20 v29 v34 v35 v36 v37 v43 v51) h)))))) := (rfl)
def kLaw_9 (C : Cx) : K := .reg [.mk (o1 moveA (.cst (.bool true)))] [(2, 0)]
theorem kLaw_9_eq : kx C run lp (kLaw_9 C) ⟨kLaw_T v0 v1 v2 v3 v4 v5 v6 v8 v10 v14 v18 v20 v29 v34 v35 v36 v37 v43 v51, h⟩ = kNrm (moveA (.bool true) h (fun a0 h => some (.st (kLaw_T v0 v1 a0 v3 v4 v5 v6 v8 v10 v14 v18 v20 v29 v34 v35 v36 v37 v43 v51) h))) := (rfl)
def kLaw_10 (_ : Cx) : K := .ex .ret
theorem kLaw_10_eq : kx C run lp (kLaw_10 C) s = some (.ret, s) := (rfl)
def kLaw_11 (C : Cx) : K := .seq (kLaw_9 C) (kLaw_10 C)
theorem kLaw_11_eq : kx C run lp (kLaw_11 C) s = obind (kx C run lp (kLaw_9 C) s) (kThen (kx C run lp (kLaw_10 C))) := (rfl)
def kLaw_12 (_ : Cx) : K := .skip
theorem kLaw_12_eq : kx C run lp (kLaw_12 C) s = some (.nrm, s) := (rfl)
def kLaw_13 (C : Cx) : K := .cond (.tr 14) (kLaw_11 C) (kLaw_12 C)
theorem kLaw_13_eq : kx C run lp (kLaw_13 C) ⟨kLaw_T v0 v1 v2 v3 v4 v5 v6 v8 v10 v14 v18 v20 v29 v34 v35 v36 v37 v43 v51, h⟩ = kIf v14 (kx C run lp (kLaw_11 C)) (kx C run lp (kLaw_12 C)) ⟨kLaw_T v0 v1 v2 v3 v4 v5 v6 v8 v10 v14 v18 v20 v29 v34 v35 v36 v37 v43 v51, h⟩ := (rfl)
def kLaw_14 (C : Cx) : K := .seq (kLaw_8 C) (kLaw_13 C)
theorem kLaw_14_eq : kx C run lp (kLaw_14 C) s = obind (kx C run lp (kLaw_8 C) s) (kThen (kx C run lp (kLaw_13 C))) := (rfl)
def kLaw_15 (C : Cx) : K := .reg [.mk (o1 (loadG 4) (.tr 1)), .mk (oCallF 7 [(.st 0)]), .mk (o1 moveA (.st 0))] [(3, 0)]
theorem kLaw_15_eq : kx C run lp (kLaw_15 C) ⟨kLaw_T v0 v1 v2 v3 v4 v5 v6 v8 v10 v14 v18 v20 v29 v34 v35 v36 v37 v43 v51, h⟩ = kNrm (loadG 4 v1 h (fun a0 h => withX (fun a1 h => moveA a1 h (fun a2 h => some (.st (kLaw_T v0 v1 v2 a2 v4 v5 v6 v8 v10 v14 v18 v20 v29 v34 v35 v36 v37 v43 v51) h))) (callA C run 7 [a0] h))) := (rfl)
def kLaw_16 (C : Cx) : K := .reg [.mk (o1 moveA (.cst (.int 9223372036854775807 0)))] [(4, 0)]
theorem kLaw_16_eq : kx C run lp (kLaw_16 C) ⟨kLaw_T v0 v1 v2 v3 v4 v5 v6 v8 v10 v14 v18 v20 v29 v34 v35 v36 v37 v43 v51, h⟩ = kNrm (moveA (.int 9223372036854775807 0) h (fun a0 h => some (.st (kLaw_T v0 v1 v2 v3 a0 v5 v6 v8 v10 v14 v18 v20 v29 v34 v35 v36 v37 v43 v51) h))) := (rfl)
def kLaw_17 (C : Cx) : K := .reg [.mk (o1 moveA (.tr 6)), .mk (o2 (cmp ilt) (.st 0) (.cst (.int 9223372036854775807 1))), .mk (o1 moveA (.st 0)), .mk (guardA (.st 0) false ((o1 moveA (.tr 5)))), .mk (guardA (.st 1) false ((o2 (strCmp eqS) (.st 0) (.cst (.str []))))), .mk (o3 pickA (.st 2) (.cst (.bool true)) (.st 0))] [(29, 0)]
theorem kLaw_17_eq : kx C run lp (kLaw_17 C) ⟨kLaw_T v0 v1 v2 v3 v4 v5 v6 v8 v10 v14 v18 v20 v29 v34 v35 v36 v37 v43 v51, h⟩ = kNrm (moveA v6 h (fun a0 h => cmp ilt a0 (.int 9223372036854775807 1) h (fun a1 h => moveA a1 h (fun a2 h => guardC a2 false (fun κ => moveA v5 h (κ)) h (fun a3 h => guardC a2 false (fun κ => strCmp eqS a3 (.str []) h (κ)) h (fun a4 h => pickA a2 (.bool true) a4 h (fun a5 h => some (.st (kLaw_T v0 v1 v2 v3 v4 v5 v6 v8 v10 v14 v18 v20 a5 v34 v35 v36 v37 v43 v51) h)))))))) := (rfl)
def kLaw_18 (C : Cx) : K := .reg [.mk (o1 moveA (.cst (.bool false)))] [(2, 0)]
theorem kLaw_18_eq : kx C run lp (kLaw_18 C) ⟨kLaw_T v0 v1 v2 v3 v4 v5 v6 v8 v10 v14 v18 v20 v29 v34 v35 v36 v37 v43 v51, h⟩ = kNrm (moveA (.bool false) h (fun a0 h => some (.st (kLaw_T v0 v1 a0 v3 v4 v5 v6 v8 v10 v14 v18 v20 v29 v34 v35 v36 v37 v43 v51) h))) := (rfl)
def kLaw_19 (_ : Cx) : K := .ex .ret
theorem kLaw_19_eq : kx C run lp (kLaw_19 C) s = some (.ret, s) := (rfl)
def kLaw_20 (C : Cx) : K := .seq (kLaw_18 C) (kLaw_19 C)
theorem kLaw_20_eq : kx C run lp (kLaw_20 C) s = obind (kx C run lp (kLaw_18 C) s) (kThen (kx C run lp (kLaw_19 C))) := (rfl)
def kLaw_21 (_ : Cx) : K := .skip
theorem kLaw_21_eq : kx C run lp (kLaw_21 C) s = some (.nrm, s) := (rfl)
def kLaw_22 (C : Cx) : K := .cond (.tr 29) (kLaw_20 C) (kLaw_21 C)
theorem kLaw_22_eq : kx C run lp (kLaw_22 C) ⟨kLaw_T v0 v1 v2 v3 v4 v5 v6 v8 v10 v14 v18 v20 v29 v34 v35 v36 v37 v43 v51, h⟩ = kIf v29 (kx C run lp (kLaw_20 C)) (kx C run lp (kLaw_21 C)) ⟨kLaw_T v0 v1 v2 v3 v4 v5 v6 v8 v10 v14 v18 v20 v29 v34 v35 v36 v37 v43 v51, h⟩ := (rfl)
def kLaw_23 (C : Cx) : K := .seq (kLaw_17 C) (kLaw_22 C)
theorem kLaw_23_eq : kx C run lp (kLaw_23 C) s = obind (kx C run lp (kLaw_17 C) s) (kThen (kx C run lp (kLaw_22 C))) := (rfl)
def kLaw_24 (C : Cx) : K := .reg [.mk (o1 moveA (.tr 4)), .mk (o1 moveA (.tr 6)), .mk (o2 (arith iadd) (.st 1) (.st 0)), .mk (o1 moveA (.st 0))] [(4, 0)]
theorem kLaw_24_eq : kx C run lp (kLaw_24 C) ⟨kLaw_T v0 v1 v2 v3 v4 v5 v6 v8 v10 v14 v18 v20 v29 v34 v35 v36 v37 v43 v51, h⟩ = kNrm (moveA v4 h (fun a0 h => moveA v6 h (fun a1 h => arith iadd a0 a1 h (fun a2 h => moveA a2 h (fun a3 h => some (.st (kLaw_T v0 v1 v2 v3 a3 v5 v6 v8 v10 v14 v18 v20 v29 v34 v35 v36 v37 v43 v51) h)))))) := (rfl)
def kLaw_25 (C : Cx) : K := .seq (kLaw_23 C) (kLaw_24 C)
theorem kLaw_25_eq : kx C run lp (kLaw_25 C) s = obind (kx C run lp (kLaw_23 C) s) (kThen (kx C run lp (kLaw_24 C))) := (rfl)
def kLaw_26_ent (C : Cx) : List OK := [.mk (o1 (extA 0) (.st 0)), .mk (o1 (extA 1) (.st 1)), .mk (o1 moveA (.st 1)), .mk (o1 moveA (.st 1))]
def kLaw_26 (C : Cx) : K := .rm [.mk (o1 moveA (.tr 3))] (.st 0) [(18, 0)] 19 20 (kLaw_26_ent C) [(6, 0), (5, 1)] 1 18 (kLaw_25 C)
theorem kLaw_26_en (a0 : AV) : opsA C run [(6, 0), (5, 1)] (kLaw_T v0 v1 v2 v3 v4 v5 v6 v8 v10 v14 v18 v20 v29 v34 v35 v36 v37 v43 v51) (kLaw_26_ent C) [a0] h = extA 0 a0 h (fun a1 h => extA 1 a0 h (fun a2 h => moveA a1 h (fun a3 h => moveA a2 h (fun a4 h => some (.st (kLaw_T v0 v1 v2 v3 v4 a3 a4 v8 v10 v14 v18 v20 v29 v34 v35 v36 v37 v43 v51) h))))) := (rfl)
theorem kLaw_26_eq : kx C run lp (kLaw_26 C) ⟨kLaw_T v0 v1 v2 v3 v4 v5 v6 v8 v10 v14 v18 v20 v29 v34 v35 v36 v37 v43 v51, h⟩ = kNrm (moveA v3 h (fun a0 h => rmOnP C run (kx C run lp (kLaw_25 C)) 19 20 (kLaw_26_ent C) [(6, 0), (5, 1)] 1 18 a0 (kLaw_T v0 v1 v2 v3 v4 v5 v6 v8 v10 v14 (.pto (flen h) 0) .bot v29 v34 v35 v36 v37 v43 v51) h)) := (rfl)
def kLaw_27 (C : Cx) : K := .reg [.mk (o1 (moveP 0) (.tr 1)), .mk (o1 load1 (.st 0)), .mk (o1 lenS (.st 0)), .mk (o1 moveA (.cst (.int 9223372036854775807 0)))] [(36, 0), (35, 1), (34, 2)]
theorem kLaw_27_eq : kx C run lp (kLaw_27 C) ⟨kLaw_T v0 v1 v2 v3 v4 v5 v6 v8 v10 v14 v18 v20 v29 v34 v35 v36 v37 v43 v51, h⟩ = kNrm (moveP 0 v1 h (fun a0 h => load1 a0 h (fun a1 h => lenS a1 h (fun a2 h => moveA (.int 9223372036854775807 0) h (fun a3 h => some (.st (kLaw_T v0 v1 v2 v3 v4 v5 v6 v8 v10 v14 v18 v20 v29 a1 a2 a3 v37 v43 v51) h)))))) := (rfl)
def kLaw_28 (C : Cx) : K := .reg [.mk (o2 (cmp ilt) (.tr 36) (.tr 35))] [(37, 0)]
theorem kLaw_28_eq : kx C run lp (kLaw_28 C) ⟨kLaw_T v0 v1 v2 v3 v4 v5 v6 v8 v10 v14 v18 v20 v29 v34 v35 v36 v37 v43 v51, h⟩ = kNrm (cmp ilt v36 v35 h (fun a0 h => some (.st (kLaw_T v0 v1 v2 v3 v4 v5 v6 v8 v10 v14 v18 v20 v29 v34 v35 v36 a0 v43 v51) h))) := (rfl)
def kLaw_29 (_ : Cx) : K := .skip
theorem kLaw_29_eq : kx C run lp (kLaw_29 C) s = some (.nrm, s) := (rfl)
def kLaw_30 (_ : Cx) : K := .ex (.exit 2)
theorem kLaw_30_eq : kx C run lp (kLaw_30 C) s = some (.exit 2, s) := (rfl)
def kLaw_31 (C : Cx) : K := .cond (.tr 37) (kLaw_29 C) (kLaw_30 C)
theorem kLaw_31_eq : kx C run lp (kLaw_31 C) ⟨kLaw_T v0 v1 v2 v3 v4 v5 v6 v8 v10 v14 v18 v20 v29 v34 v35 v36 v37 v43 v51, h⟩ = kIf v37 (kx C run lp (kLaw_29 C)) (kx C run lp (kLaw_30 C)) ⟨kLaw_T v0 v1 v2 v3 v4 v5 v6 v8 v10 v14 v18 v20 v29 v34 v35 v36 v37 v43 v51, h⟩ := (rfl)
def kLaw_32 (C : Cx) : K := .reg [.mk (o2 (idxS 265) (.tr 34) (.tr 36)), .mk (o1 (loadG 265) (.st 0)), .mk (oAlloc 37 [.int 9223372036854775807 0, .int 9223372036854775807 0, .int 9223372036854775807 0, .bool false, .int 18446744073709551615 0, .int 18446744073709551615 0, .int 18446744073709551615 0, .int 18446744073709551615 0, .nils, .int 255 0, .int 255 0, .int 255 0, .int 255 0, .int 255 0, .int 255 0, .int 255 0, .int 255 0, .int 255 0, .int 255 0, .int 255 0, .int 255 0, .int 255 0, .int 255 0, .int 255 0, .int 255 0, .int 255 0, .int 255 0, .int 255 0, .int 255 0, .int 255 0, .int 255 0, .int 255 0, .int 255 0, .int 255 0, .int 255 0, .int 255 0, .int 255 0, .int 255 0, .int 255 0, .int 255 0, .int 255 0, .int 255 0, .int 255 0, .int 255 0, .int 255 0, .int 255 0, .int 255 0, .int 255 0, .int 255 0, .int 255 0, .int 255 0, .int 255 0, .int 255 0, .int 255 0, .int 255 0, .int 255 0, .int 255 0, .int 255 0, .int 255 0, .int 255 0, .int 255 0, .int 255 0, .int 255 0, .int 255 0, .int 255 0, .int 255 0, .int 255 0, .int 255 0, .int 255 0, .int 255 0, .int 255 0, .int 255 0, .int 255 0, .int 255 0, .int 255 0, .int 255 0, .int 255 0, .int 255 0, .int 255 0, .int 255 0, .int 255 0, .int 255 0, .int 255 0, .int 255 0, .int 255 0, .int 255 0, .int 255 0, .int 255 0, .int 255 0, .int 255 0, .int 255 0, .int 255 0, .int 255 0, .int 255 0, .int 255 0, .int 255 0, .int 255 0, .int 255 0, .int 255 0, .int 255 0, .int 255 0, .int 255 0, .int 255 0, .int 255 0, .int 255 0, .int 255 0, .int 255 0, .int 255 0, .int 255 0, .int 255 0, .int 255 0, .int 255 0, .int 255 0, .int 255 0, .int 255 0, .int 255 0, .int 255 0, .int 255 0, .int 255 0, .int 255 0, .int 255 0, .int 255 0, .int 255 0, .int 255 0, .int 255 0, .int 255 0, .int 255 0, .int 255 0, .int 255 0, .int 255 0, .int 255 0, .int 255 0, .int 255 0, .int 255 0, .int 255 0, .int 255 0, .int 255 0, .int 255 0, .int 255 0, .int 255 0, .int 255 0, .int 255 0, .int 255 0, .int 255 0, .int 255 0, .int 255 0, .int 255 0, .int 255 0, .int 255 0, .int 255 0, .int 255 0, .int 255 0, .int 255 0, .int 255 0, .int 255 0, .int 255 0, .int 255 0, .int 255 0, .int 255 0, .int 255 0, .int 255 0, .int 255 0, .int 255 0, .int 255 0, .int 255 0, .int 255 0, .int 255 0, .int 255 0, .int 255 0, .int 255 0, .int 255 0, .int 255 0, .int 255 0, .int 255 0, .int 255 0, .int 255 0, .int 255 0, .int 255 0, .int 255 0, .int 255 0, .int 255 0, .int 255 0, .int 255 0, .int 255 0, .int 255 0, .int 255 0, .int 255 0, .int 255 0, .int 255 0, .int 255 0, .int 255 0, .int 255 0, .int 255 0, .int 255 0, .int 255 0, .int 255 0, .int 255 0, .int 255 0, .int 255 0, .int 255 0, .int 255 0, .int 255 0, .int 255 0, .int 255 0, .int 255 0, .int 255 0, .int 255 0, .int 255 0, .int 255 0, .int 255 0, .int 255 0, .int 255 0, .int 255 0, .int 255 0, .int 255 0, .int 255 0, .int 255 0, .int 255 0, .int 255 0, .int 255 0, .int 255 0, .int 255 0, .int 255 0, .int 255 0, .int 255 0, .int 255 0, .int 255 0, .int 255 0, .int 255 0, .int 255 0, .int 255 0, .int 255 0, .int 255 0, .int 255 0, .int 255 0, .int 255 0, .int 255 0, .int 255 0, .int 255 0, .int 255 0, .int 255 0, .int 255 0, .int 255 0, .int 255 0, .int 255 0, .int 255 0, .int 255 0, .int 255 0, .int 255 0, .int 255 0, .int 255 0, .int 255 0, .int 255 0, .int 255 0, .int 255 0, .int 255 0, .int 255 0, .int 255 0, .int 255 0, .int 255 0, .int 255 0, .int 255 0, .int 255 0, .int 255 0, .int 255 0]), .mk (o2 (storeG 265) (.st 0) (.st 1))] [(8, 1)]
theorem kLaw_32_eq : kx C run lp (kLaw_32 C) ⟨kLaw_T v0 v1 v2 v3 v4 v5 v6 v8 v10 v14 v18 v20 v29 v34 v35 v36 v37 v43 v51, h⟩ = kNrm (idxS 265 v34 v36 h (fun a0 h => loadG 265 a0 h (fun a1 h => newA h (.cells kLaw_Z36 37) (fun a2 h => storeG 265 a2 a1 h (fun a3 h => some (.st (kLaw_T v0 v1 v2 v3 v4 v5 v6 a2 v10 v14 v18 v20 v29 v34 v35 v36 v37 v43 v51) h)))))) := (rfl)
def kLaw_33 (C : Cx) : K := .reg [.mk (o1 (moveP 0) (.tr 8)), .mk (o1 load1 (.st 0)), .mk (oCallF 8 [(.st 0)]), .mk (o2 (strCmp eqS) (.st 0) (.cst (.str [])))] [(43, 0)]
theorem kLaw_33_eq : kx C run lp (kLaw_33 C) ⟨kLaw_T v0 v1 v2 v3 v4 v5 v6 v8 v10 v14 v18 v20 v29 v34 v35 v36 v37 v43 v51, h⟩ = kNrm (moveP 0 v8 h (fun a0 h => load1 a0 h (fun a1 h => withX (fun a2 h => strCmp eqS a2 (.str []) h (fun a3 h => some (.st (kLaw_T v0 v1 v2 v3 v4 v5 v6 v8 v10 v14 v18 v20 v29 v34 v35 v36 v37 a3 v51) h))) (callA C run 8 [a1] h)))) := (rfl)
def kLaw_34 (C : Cx) : K := .reg [.mk (o1 moveA (.tr 4)), .mk (o2 (arith iadd) (.st 0) (.cst (.int 9223372036854775807 1))), .mk (o1 moveA (.st 0))] [(4, 0)]
theorem kLaw_34_eq : kx C run lp (kLaw_34 C) ⟨kLaw_T v0 v1 v2 v3 v4 v5 v6 v8 v10 v14 v18 v20 v29 v34 v35 v36 v37 v43 v51, h⟩ = kNrm (moveA v4 h (fun a0 h => arith iadd a0 (.int 9223372036854775807 1) h (fun a1 h => moveA a1 h (fun a2 h => some (.st (kLaw_T v0 v1 v2 v3 a2 v5 v6 v8 v10 v14 v18 v20 v29 v34 v35 v36 v37 v43 v51) h))))) := (rfl)
def kLaw_35 (C : Cx) : K := .reg [.mk (o1 moveA (.tr 3)), .mk (o1 (moveP 0) (.tr 8)), .mk (o1 load1 (.st 0)), .mk (oCallF 8 [(.st 0)]), .mk (o2 (lookA ⟨.string, 1, 16, [.str []], false, true⟩ ⟨(.int .i64), 1, 8, [.int 9223372036854775807 0], false, true⟩ false) (.st 3) (.st 0)), .mk (o2 (cmp ilt) (.st 0) (.cst (.int 9223372036854775807 1)))] [(51, 0)]
theorem kLaw_35_eq : kx C run lp (kLaw_35 C) ⟨kLaw_T v0 v1 v2 v3 v4 v5 v6 v8 v10 v14 v18 v20 v29 v34 v35 v36 v37 v43 v51, h⟩ = kNrm (moveA v3 h (fun a0 h => moveP 0 v8 h (fun a1 h => load1 a1 h (fun a2 h => withX (fun a3 h => lookA ⟨.string, 1, 16, [.str []], false, true⟩ ⟨(.int .i64), 1, 8, [.int 9223372036854775807 0], false, true⟩ false a0 a3 h (fun a4 h => cmp ilt a4 (.int 9223372036854775807 1) h (fun a5 h => some (.st (kLaw_T v0 v1 v2 v3 v4 v5 v6 v8 v10 v14 v18 v20 v29 v34 v35 v36 v37 v43 a5) h)))) (callA C run 8 [a2] h))))) := (rfl)
def kLaw_36 (C : Cx) : K := .reg [.mk (o1 moveA (.cst (.bool false)))] [(2, 0)]
theorem kLaw_36_eq : kx C run lp (kLaw_36 C) ⟨kLaw_T v0 v1 v2 v3 v4 v5 v6 v8 v10 v14 v18 v20 v29 v34 v35 v36 v37 v43 v51, h⟩ = kNrm (moveA (.bool false) h (fun a0 h => some (.st (kLaw_T v0 v1 a0 v3 v4 v5 v6 v8 v10 v14 v18 v20 v29 v34 v35 v36 v37 v43 v51) h))) := (rfl)
def kLaw_37 (_ : Cx) : K := .ex .ret
theorem kLaw_37_eq : kx C run lp (kLaw_37 C) s = some (.ret, s) := (rfl)
def kLaw_38 (C : Cx) : K := .seq (kLaw_36 C) (kLaw_37 C)
theorem kLaw_38_eq : kx C run lp (kLaw_38 C) s = obind (kx C run lp (kLaw_36 C) s) (kThen (kx C run lp (kLaw_37 C))) := (rfl)
def kLaw_39 (_ : Cx) : K := .skip
theorem kLaw_39_eq : kx C run lp (kLaw_39 C) s = some (.nrm, s) := (rfl)
def kLaw_40 (C : Cx) : K := .cond (.tr 51) (kLaw_38 C) (kLaw_39 C)
theorem kLaw_40_eq : kx C run lp (kLaw_40 C) ⟨kLaw_T v0 v1 v2 v3 v4 v5 v6 v8 v10 v14 v18 v20 v29 v34 v35 v36 v37 v43 v51, h⟩ = kIf v51 (kx C run lp (kLaw_38 C)) (kx C run lp (kLaw_39 C)) ⟨kLaw_T v0 v1 v2 v3 v4 v5 v6 v8 v10 v14 v18 v20 v29 v34 v35 v36 v37 v43 v51, h⟩ := (rfl)
def kLaw_41 (C : Cx) : K := .seq (kLaw_35 C) (kLaw_40 C)
theorem kLaw_41_eq : kx C run lp (kLaw_41 C) s = obind (kx C run lp (kLaw_35 C) s) (kThen (kx C run lp (kLaw_40 C))) := (rfl)
def kLaw_42 (C : Cx) : K := .cond (.tr 43) (kLaw_34 C) (kLaw_41 C)
theorem kLaw_42_eq : kx C run lp (kLaw_42 C) ⟨kLaw_T v0 v1 v2 v3 v4 v5 v6 v8 v10 v14 v18 v20 v29 v34 v35 v36 v37 v43 v51, h⟩ = kIf v43 (kx C run lp (kLaw_34 C)) (kx C run lp (kLaw_41 C)) ⟨kLaw_T v0 v1 v2 v3 v4 v5 v6 v8 v10 v14 v18 v20 v29 v34 v35 v36 v37 v43 v51, h⟩ := (rfl)
def kLaw_43 (C : Cx) : K := .seq (kLaw_33 C) (kLaw_42 C)
theorem kLaw_43_eq : kx C run lp (kLaw_43 C) s = obind (kx C run lp (kLaw_33 C) s) (kThen (kx C run lp (kLaw_42 C))) := (rfl)
def kLaw_44 (C : Cx) : K := .seq (kLaw_32 C) (kLaw_43 C)
theorem kLaw_44_eq : kx C run lp (kLaw_44 C) s = obind (kx C run lp (kLaw_32 C) s) (kThen (kx C run lp (kLaw_43 C))) := (rfl)
def kLaw_45 (C : Cx) : K := .block 3 (kLaw_44 C)
theorem kLaw_45_eq : kx C run lp (kLaw_45 C) s = obind (kx C run lp (kLaw_44 C) s) (kOut 3) := (rfl)
def kLaw_46 (C : Cx) : K := .reg [.mk (o2 (arith iadd) (.tr 36) (.cst (.int 9223372036854775807 1))), .mk (o1 moveA (.st 0))] [(36, 0)]
theorem kLaw_46_eq : kx C run lp (kLaw_46 C) ⟨kLaw_T v0 v1 v2 v3 v4 v5 v6 v8 v10 v14 v18 v20 v29 v34 v35 v36 v37 v43 v51, h⟩ = kNrm (arith iadd v36 (.int 9223372036854775807 1) h (fun a0 h => moveA a0 h (fun a1 h => some (.st (kLaw_T v0 v1 v2 v3 v4 v5 v6 v8 v10 v14 v18 v20 v29 v34 v35 a1 v37 v43 v51) h)))) := (rfl)
def kLaw_47 (C : Cx) : K := .seq (kLaw_45 C) (kLaw_46 C)
theorem kLaw_47_eq : kx C run lp (kLaw_47 C) s = obind (kx C run lp (kLaw_45 C) s) (kThen (kx C run lp (kLaw_46 C))) := (rfl)
def kLaw_48 (C : Cx) : K := .seq (kLaw_31 C) (kLaw_47 C)
theorem kLaw_48_eq : kx C run lp (kLaw_48 C) s = obind (kx C run lp (kLaw_31 C) s) (kThen (kx C run lp (kLaw_47 C))) := (rfl)
def kLaw_49 (C : Cx) : K := .seq (kLaw_28 C) (kLaw_48 C)
theorem kLaw_49_eq : kx C run lp (kLaw_49 C) s = obind (kx C run lp (kLaw_28 C) s) (kThen (kx C run lp (kLaw_48 C))) := (rfl)
def kLaw_50 (C : Cx) : K := .loop (kLaw_49 C)
theorem kLaw_50_eq : kx C run lp (kLaw_50 C) s = lp (kLaw_49 C) s := (rfl)
def kLaw_51 (C : Cx) : K := .block 2 (kLaw_50 C)
theorem kLaw_51_eq : kx C run lp (kLaw_51 C) s = obind (kx C run lp (kLaw_50 C) s) (kOut 2) := (rfl)
def kLaw_52 (C : Cx) : K := .seq (kLaw_27 C) (kLaw_51 C)
theorem kLaw_52_eq : kx C run lp (kLaw_52 C) s = obind (kx C run lp (kLaw_27 C) s) (kThen (kx C run lp (kLaw_51 C))) := (rfl)
def kLaw_53 (C : Cx) : K := .reg [.mk (o1 moveA (.tr 4)), .mk (o1 (moveP 0) (.tr 1)), .mk (o1 load1 (.st 0)), .mk (o1 lenS (.st 0)), .mk (o2 (cmp ibeq) (.st 3) (.st 0)), .mk (o1 moveA (.st 0))] [(2, 0)]
theorem kLaw_53_eq : kx C run lp (kLaw_53 C) ⟨kLaw_T v0 v1 v2 v3 v4 v5 v6 v8 v10 v14 v18 v20 v29 v34 v35 v36 v37 v43 v51, h⟩ = kNrm (moveA v4 h (fun a0 h => moveP 0 v1 h (fun a1 h => load1 a1 h (fun a2 h => lenS a2 h (fun a3 h => cmp ibeq a0 a3 h (fun a4 h => moveA a4 h (fun a5 h => some (.st (kLaw_T v0 v1 a5 v3 v4 v5 v6 v8 v10 v14 v18 v20 v29 v34 v35 v36 v37 v43 v51) h)))))))) := (rfl)
def kLaw_54 (_ : Cx) : K := .ex .ret
theorem kLaw_54_eq : kx C run lp (kLaw_54 C) s = some (.ret, s) := (rfl)
def kLaw_55 (C : Cx) : K := .seq (kLaw_53 C) (kLaw_54 C)
theorem kLaw_55_eq : kx C run lp (kLaw_55 C) s = obind (kx C run lp (kLaw_53 C) s) (kThen (kx C run lp (kLaw_54 C))) := (rfl)
def kLaw_56 (C : Cx) : K := .seq (kLaw_52 C) (kLaw_55 C)
theorem kLaw_56_eq : kx C run lp (kLaw_56 C) s = obind (kx C run lp (kLaw_52 C) s) (kThen (kx C run lp (kLaw_55 C))) := (rfl)
def kLaw_57 (C : Cx) : K := .seq (kLaw_26 C) (kLaw_56 C)
theorem kLaw_57_eq : kx C run lp (kLaw_57 C) s = obind (kx C run lp (kLaw_26 C) s) (kThen (kx C run lp (kLaw_56 C))) := (rfl)
def kLaw_58 (C : Cx) : K := .seq (kLaw_16 C) (kLaw_57 C)
theorem kLaw_58_eq : kx C run lp (kLaw_58 C) s = obind (kx C run lp (kLaw_16 C) s) (kThen (kx C run lp (kLaw_57 C))) := (rfl)
def kLaw_59 (C : Cx) : K := .seq (kLaw_15 C) (kLaw_58 C)
theorem kLaw_59_eq : kx C run lp (kLaw_59 C) s = obind (kx C run lp (kLaw_15 C) s) (kThen (kx C run lp (kLaw_58 C))) := (rfl)
def kLaw_60 (C : Cx) : K := .seq (kLaw_14 C) (kLaw_59 C)
theorem kLaw_60_eq : kx C run lp (kLaw_60 C) s = obind (kx C run lp (kLaw_14 C) s) (kThen (kx C run lp (kLaw_59 C))) := (rfl)
def kLaw_61 (C : Cx) : K := .seq (kLaw_7 C) (kLaw_60 C)
theorem kLaw_61_eq : kx C run lp (kLaw_61 C) s = obind (kx C run lp (kLaw_7 C) s) (kThen (kx C run lp (kLaw_60 C))) := (rfl)
def kLaw_62 (C : Cx) : K := .seq (kLaw_0 C) (kLaw_61 C)
theorem kLaw_62_eq : kx C run lp (kLaw_62 C) s = obind (kx C run lp (kLaw_0 C) s) (kThen (kx C run lp (kLaw_61 C))) := (rfl)
theorem kLaw_tmap (f : Nat → AV → AV) : tmap f (kLaw_T v0 v1 v2 v3 v4 v5 v6 v8 v10 v14 v18 v20 v29 v34 v35 v36 v37 v43 v51) = kLaw_T (f 0 v0) (f 1 v1) (f 2 v2) (f 3 v3) (f 4 v4) (f 5 v5) (f 6 v6) (f 8 v8) (f 10 v10) (f 14 v14) (f 18 v18) (f 20 v20) (f 29 v29) (f 34 v34) (f 35 v35) (f 36 v36) (f 37 v37) (f 43 v43) (f 51 v51) := (rfl)
theorem kLaw_tget0 : tget (kLaw_T v0 v1 v2 v3 v4 v5 v6 v8 v10 v14 v18 v20 v29 v34 v35 v36 v37 v43 v51) 0 = v0 := (rfl)
theorem kLaw_tget1 : tget (kLaw_T v0 v1 v2 v3 v4 v5 v6 v8 v10 v14 v18 v20 v29 v34 v35 v36 v37 v43 v51) 1 = v1 := (rfl)
theorem kLaw_tget2 : tget (kLaw_T v0 v1 v2 v3 v4 v5 v6 v8 v10 v14 v18 v20 v29 v34 v35 v36 v37 v43 v51) 2 = v2 := (rfl)
theorem kLaw_tget3 : tget (kLaw_T v0 v1 v2 v3 v4 v5 v6 v8 v10 v14 v18 v20 v29 v34 v35 v36 v37 v43 v51) 3 = v3 := (rfl)
theorem kLaw_tget4 : tget (kLaw_T v0 v1 v2 v3 v4 v5 v6 v8 v10 v14 v18 v20 v29 v34 v35 v36 v37 v43 v51) 4 = v4 := (rfl)
theorem kLaw_tget5 : tget (kLaw_T v0 v1 v2 v3 v4 v5 v6 v8 v10 v14 v18 v20 v29 v34 v35 v36 v37 v43 v51) 5 = v5 := (rfl)
theorem kLaw_tget6 : tget (kLaw_T v0 v1 v2 v3 v4 v5 v6 v8 v10 v14 v18 v20 v29 v34 v35 v36 v37 v43 v51) 6 = v6 := (rfl)
theorem kLaw_tget8 : tget (kLaw_T v0 v1 v2 v3 v4 v5 v6 v8 v10 v14 v18 v20 v29 v34 v35 v36 v37 v43 v51) 8 = v8 := (rfl)
theorem kLaw_tget10 : tget (kLaw_T v0 v1 v2 v3 v4 v5 v6 v8 v10 v14 v18 v20 v29 v34 v35 v36 v37 v43 v51) 10 = v10 := (rfl)
theorem kLaw_tget14 : tget (kLaw_T v0 v1 v2 v3 v4 v5 v6 v8 v10 v14 v18 v20 v29 v34 v35 v36 v37 v43 v51) 14 = v14 := (rfl)
theorem kLaw_tget18 : tget (kLaw_T v0 v1 v2 v3 v4 v5 v6 v8 v10 v14 v18 v20 v29 v34 v35 v36 v37 v43 v51) 18 = v18 := (rfl)
theorem kLaw_tget20 : tget (kLaw_T v0 v1 v2 v3 v4 v5 v6 v8 v10 v14 v18 v20 v29 v34 v35 v36 v37 v43 v51) 20 = v20 := (rfl)
theorem kLaw_tget29 : tget (kLaw_T v0 v1 v2 v3 v4 v5 v6 v8 v10 v14 v18 v20 v29 v34 v35 v36 v37 v43 v51) 29 = v29 := (rfl)
theorem kLaw_tget34 : tget (kLaw_T v0 v1 v2 v3 v4 v5 v6 v8 v10 v14 v18 v20 v29 v34 v35 v36 v37 v43 v51) 34 = v34 := (rfl)
theorem kLaw_tget35 : tget (kLaw_T v0 v1 v2 v3 v4 v5 v6 v8 v10 v14 v18 v20 v29 v34 v35 v36 v37 v43 v51) 35 = v35 := (rfl)
theorem kLaw_tget36 : tget (kLaw_T v0 v1 v2 v3 v4 v5 v6 v8 v10 v14 v18 v20 v29 v34 v35 v36 v37 v43 v51) 36 = v36 := (rfl)
theorem kLaw_tget37 : tget (kLaw_T v0 v1 v2 v3 v4 v5 v6 v8 v10 v14 v18 v20 v29 v34 v35 v36 v37 v43 v51) 37 = v37 := (rfl)
theorem kLaw_tget43 : tget (kLaw_T v0 v1 v2 v3 v4 v5 v6 v8 v10 v14 v18 v20 v29 v34 v35 v36 v37 v43 v51) 43 = v43 := (rfl)
theorem kLaw_tget51 : tget (kLaw_T v0 v1 v2 v3 v4 v5 v6 v8 v10 v14 v18 v20 v29 v34 v35 v36 v37 v43 v51) 51 = v51 := (rfl)
theorem kLaw_tall (p : AV → Bool) : tall p (kLaw_T v0 v1 v2 v3 v4 v5 v6 v8 v10 v14 v18 v20 v29 v34 v35 v36 v37 v43 v51) = (and (and (and (and (p v0) (p v1)) (and (p v2) (p v3))) (and (and (p v4) (p v5)) (and (p v6) (and (p v8) (p v10))))) (and (and (and (p v14) (p v18)) (and (p v20) (and (p v29) (p v34)))) (and (and (p v35) (p v36)) (and (p v37) (and (p v43) (p v51)))))) := (rfl)
theorem kLaw_ret : endA C [.tmp 2] (.ret, ⟨kLaw_T v0 v1 v2 v3 v4 v5 v6 v8 v10 v14 v18 v20 v29 v34 v35 v36 v37 v43 v51, h⟩) = some (v2, h) := (rfl)
theorem kLaw_nrm : endA C [.tmp 2] (.nrm, ⟨kLaw_T v0 v1 v2 v3 v4 v5 v6 v8 v10 v14 v18 v20 v29 v34 v35 v36 v37 v43 v51, h⟩) = some (v2, h) := (rfl)
end
def kLaw_F (C : Cx) : FK := ⟨kLaw_62 C, [0, 1, 2, 3, 4, 5, 6, 8, 10, 14, 18, 20, 29, 34, 35, 36, 37, 43, 51], 58, [.tmp 2]⟩
theorem kLaw_run (C : Cx) (run : Run) (lp : Lp) (x0 : AV) (h : AH) (ho : C.orc 4 = none) (hf : fkAt C 4 = some (kLaw_F C)) : runF C run lp 4 [x0] h = obind (kx C run lp (kLaw_62 C) ⟨kLaw_T x0 .bot .bot .bot .bot .bot .bot .bot .bot .bot .bot .bot .bot .bot .bot .bot .bot .bot .bot, h⟩) (endA C [.tmp 2]) := by
  unfold runF; rw [ho, hf]; rfl
/- guipure/cost.Kinds -/
def kKin_T (v0 v1 v2 v3 v5 v6 v9 v10 v11 v12 v19 : AV) : Tm := (.nd 6 (.nd 2 (.nd 1 (.lf 0 v0) (.lf 1 v1)) (.nd 3 (.lf 2 v2) (.nd 5 (.lf 3 v3) (.lf 5 v5)))) (.nd 11 (.nd 9 (.lf 6 v6) (.nd 10 (.lf 9 v9) (.lf 10 v10))) (.nd 12 (.lf 11 v11) (.nd 19 (.lf 12 v12) (.lf 19 v19)))))
def kKin_Z36 : List AV := [.int 9223372036854775807 0, .int 9223372036854775807 0, .int 9223372036854775807 0, .bool false, .int 18446744073709551615 0, .int 18446744073709551615 0, .int 18446744073709551615 0, .int 18446744073709551615 0, .nils, .int 255 0, .int 255 0, .int 255 0, .int 255 0, .int 255 0, .int 255 0, .int 255 0, .int 255 0, .int 255 0, .int 255 0, .int 255 0, .int 255 0, .int 255 0, .int 255 0, .int 255 0, .int 255 0, .int 255 0, .int 255 0, .int 255 0, .int 255 0, .int 255 0, .int 255 0, .int 255 0, .int 255 0, .int 255 0, .int 255 0, .int 255 0, .int 255 0, .int 255 0, .int 255 0, .int 255 0, .int 255 0, .int 255 0, .int 255 0, .int 255 0, .int 255 0, .int 255 0, .int 255 0, .int 255 0, .int 255 0, .int 255 0, .int 255 0, .int 255 0, .int 255 0, .int 255 0, .int 255 0, .int 255 0, .int 255 0, .int 255 0, .int 255 0, .int 255 0, .int 255 0, .int 255 0, .int 255 0, .int 255 0, .int 255 0, .int 255 0, .int 255 0, .int 255 0, .int 255 0, .int 255 0, .int 255 0, .int 255 0, .int 255 0, .int 255 0, .int 255 0, .int 255 0, .int 255 0, .int 255 0, .int 255 0, .int 255 0, .int 255 0, .int 255 0, .int 255 0, .int 255 0, .int 255 0, .int 255 0, .int 255 0, .int 255 0, .int 255 0, .int 255 0, .int 255 0, .int 255 0, .int 255 0, .int 255 0, .int 255 0, .int 255 0, .int 255 0, .int 255 0, .int 255 0, .int 255 0, .int 255 0, .int 255 0, .int 255 0, .int 255 0, .int 255 0, .int 255 0, .int 255 0, .int 255 0, .int 255 0, .int 255 0, .int 255 0, .int 255 0, .int 255 0, .int 255 0, .int 255 0, .int 255 0, .int 255 0, .int 255 0, .int 255 0, .int 255 0, .int 255 0, .int 255 0, .int 255 0, .int 255 0, .int 255 0, .int 255 0, .int 255 0, .int 255 0, .int 255 0, .int 255 0, .int 255 0, .int 255 0, .int 255 0, .int 255 0, .int 255 0, .int 255 0, .int 255 0, .int 255 0, .int 255 0, .int 255 0, .int 255 0, .int 255 0, .int 255 0, .int 255 0, .int 255 0, .int 255 0, .int 255 0, .int 255 0, .int 255 0, .int 255 0, .int 255 0, .int 255 0, .int 255 0, .int 255 0, .int 255 0, .int 255 0, .int 255 0, .int 255 0, .int 255 0, .int 255 0, .int 255 0, .int 255 0, .int 255 0, .int 255 0, .int 255 0, .int 255 0, .int 255 0, .int 255 0, .int 255 0, .int 255 0, .int 255 0, .int 255 0, .int 255 0, .int 255 0, .int 255 0, .int 255 0, .int 255 0, .int 255 0, .int 255 0, .int 255 0, .int 255 0, .int 255 0, .int 255 0, .int 255 0, .int 255 0, .int 255 0, .int 255 0, .int 255 0, .int 255 0, .int 255 0, .int 255 0, .int 255 0, .int 255 0, .int 255 0, .int 255 0, .int 255 0, .int 255 0, .int 255 0, .int 255 0, .int 255 0, .int 255 0, .int 255 0, .int 255 0, .int 255 0, .int 255 0, .int 255 0, .int 255 0, .int 255 0, .int 255 0, .int 255 0, .int 255 0, .int 255 0, .int 255 0, .int 255 0, .int 255 0, .int 255 0, .int 255 0, .int 255 0, .int 255 0, .int 255 0, .int 255 0, .int 255 0, .int 255 0, .int 255 0, .int 255 0, .int 255 0, .int 255 0, .int 255 0, .int 255 0, .int 255 0, .int 255 0, .int 255 0, .int 255 0, .int 255 0, .int 255 0, .int 255 0, .int 255 0, .int 255 0, .int 255 0, .int 255 0, .int 255 0, .int 255 0, .int 255 0, .int 255 0, .int 255 0, .int 255 0, .int 255 0, .int 255 0, .int 255 0, .int 255 0, .int 255 0, .int 255 0, .int 255 0, .int 255 0, .int 255 0, .int 255 0, .int 255 0, .int 255 0, .int 255 0, .int 255 0, .int 255 0, .int 255 0, .int 255 0, .int 255 0, .int 255 0]
section
variable (C : Cx) (run : Run) (lp : Lp) (s : St) (h : AH) (v0 v1 v2 v3 v5 v6 v9 v10 v11 v12 v19 : AV)
def kKin_0 (C : Cx) : K := .reg [.mk (o1 (boxA 31) (.tr 0)), .mk (o1 moveA (.cst (.nilm)))] [(2, 0), (1, 1)]
theorem kKin_0_eq : kx C run lp (kKin_0 C) ⟨kKin_T v0 v1 v2 v3 v5 v6 v9 v10 v11 v12 v19, h⟩ = kNrm (boxA 31 v0 h (fun a0 h => moveA (.nilm) h (fun a1 h => some (.st (kKin_T v0 a0 a1 v3 v5 v6 v9 v10 v11 v12 v19) h)))) := (rfl)
def kKin_1 (C : Cx) : K := .reg [.mk oMap, .mk (o1 moveA (.st 0))] [(3, 0)]
theorem kKin_1_eq : kx C run lp (kKin_1 C) ⟨kKin_T v0 v1 v2 v3 v5 v6 v9 v10 v11 v12 v19, h⟩ = kNrm ((fun a0 h => moveA a0 h (fun a1 h => some (.st (kKin_T v0 v1 v2 a1 v5 v6 v9 v10 v11 v12 v19) h))) (.mpo (flen h)) (fapp h [some (.map [] [])])) := (rfl)
def kKin_2 (C : Cx) : K := .reg [.mk (o1 (moveP 0) (.tr 1)), .mk (o1 load1 (.st 0)), .mk (o1 lenS (.st 0)), .mk (o1 moveA (.cst (.int 9223372036854775807 0)))] [(11, 0), (10, 1), (9, 2)]
theorem kKin_2_eq : kx C run lp (kKin_2 C) ⟨kKin_T v0 v1 v2 v3 v5 v6 v9 v10 v11 v12 v19, h⟩ = kNrm (moveP 0 v1 h (fun a0 h => load1 a0 h (fun a1 h => lenS a1 h (fun a2 h => moveA (.int 9223372036854775807 0) h (fun a3 h => some (.st (kKin_T v0 v1 v2 v3 v5 v6 a1 a2 a3 v12 v19) h)))))) := (rfl)
def kKin_3 (C : Cx) : K := .reg [.mk (o2 (cmp ilt) (.tr 11) (.tr 10))] [(12, 0)]
theorem kKin_3_eq : kx C run lp (kKin_3 C) ⟨kKin_T v0 v1 v2 v3 v5 v6 v9 v10 v11 v12 v19, h⟩ = kNrm (cmp ilt v11 v10 h (fun a0 h => some (.st (kKin_T v0 v1 v2 v3 v5 v6 v9 v10 v11 a0 v19) h))) := (rfl)
def kKin_4 (_ : Cx) : K := .skip
theorem kKin_4_eq : kx C run lp (kKin_4 C) s = some (.nrm, s) := (rfl)
def kKin_5 (_ : Cx) : K := .ex (.exit 0)
theorem kKin_5_eq : kx C run lp (kKin_5 C) s = some (.exit 0, s) := (rfl)
def kKin_6 (C : Cx) : K := .cond (.tr 12) (kKin_4 C) (kKin_5 C)
theorem kKin_6_eq : kx C run lp (kKin_6 C) ⟨kKin_T v0 v1 v2 v3 v5 v6 v9 v10 v11 v12 v19, h⟩ = kIf v12 (kx C run lp (kKin_4 C)) (kx C run lp (kKin_5 C)) ⟨kKin_T v0 v1 v2 v3 v5 v6 v9 v10 v11 v12 v19, h⟩ := (rfl)
def kKin_7 (C : Cx) : K := .reg [.mk (o2 (idxS 265) (.tr 9) (.tr 11)), .mk (o1 (loadG 265) (.st 0)), .mk (oAlloc 37 [.int 9223372036854775807 0, .int 9223372036854775807 0, .int 9223372036854775807 0, .bool false, .int 18446744073709551615 0, .int 18446744073709551615 0, .int 18446744073709551615 0, .int 18446744073709551615 0, .nils, .int 255 0, .int 255 0, .int 255 0, .int 255 0, .int 255 0, .int 255 0, .int 255 0, .int 255 0, .int 255 0, .int 255 0, .int 255 0, .int 255 0, .int 255 0, .int 255 0, .int 255 0, .int 255 0, .int 255 0, .int 255 0, .int 255 0, .int 255 0, .int 255 0, .int 255 0, .int 255 0, .int 255 0, .int 255 0, .int 255 0, .int 255 0, .int 255 0, .int 255 0, .int 255 0, .int 255 0, .int 255 0, .int 255 0, .int 255 0, .int 255 0, .int 255 0, .int 255 0, .int 255 0, .int 255 0, .int 255 0, .int 255 0, .int 255 0, .int 255 0, .int 255 0, .int 255 0, .int 255 0, .int 255 0, .int 255 0, .int 255 0, .int 255 0, .int 255 0, .int 255 0, .int 255 0, .int 255 0, .int 255 0, .int 255 0, .int 255 0, .int 255 0, .int 255 0, .int 255 0, .int 255 0, .int 255 0, .int 255 0, .int 255 0, .int 255 0, .int 255 0, .int 255 0, .int 255 0, .int 255 0, .int 255 0, .int 255 0, .int 255 0, .int 255 0, .int 255 0, .int 255 0, .int 255 0, .int 255 0, .int 255 0, .int 255 0, .int 255 0, .int 255 0, .int 255 0, .int 255 0, .int 255 0, .int 255 0, .int 255 0, .int 255 0, .int 255 0, .int 255 0, .int 255 0, .int 255 0, .int 255 0, .int 255 0, .int 255 0, .int 255 0, .int 255 0, .int 255 0, .int 255 0, .int 255 0, .int 255 0, .int 255 0, .int 255 0, .int 255 0, .int 255 0, .int 255 0, .int 255 0, .int 255 0, .int 255 0, .int 255 0, .int 255 0, .int 255 0, .int 255 0, .int 255 0, .int 255 0, .int 255 0, .int 255 0, .int 255 0, .int 255 0, .int 255 0, .int 255 0, .int 255 0, .int 255 0, .int 255 0, .int 255 0, .int 255 0, .int 255 0, .int 255 0, .int 255 0, .int 255 0, .int 255 0, .int 255 0, .int 255 0, .int 255 0, .int 255 0, .int 255 0, .int 255 0, .int 255 0, .int 255 0, .int 255 0, .int 255 0, .int 255 0, .int 255 0, .int 255 0, .int 255 0, .int 255 0, .int 255 0, .int 255 0, .int 255 0, .int 255 0, .int 255 0, .int 255 0, .int 255 0, .int 255 0, .int 255 0, .int 255 0, .int 255 0, .int 255 0, .int 255 0, .int 255 0, .int 255 0, .int 255 0, .int 255 0, .int 255 0, .int 255 0, .int 255 0, .int 255 0, .int 255 0, .int 255 0, .int 255 0, .int 255 0, .int 255 0, .int 255 0, .int 255 0, .int 255 0, .int 255 0, .int 255 0, .int 255 0, .int 255 0, .int 255 0, .int 255 0, .int 255 0, .int 255 0, .int 255 0, .int 255 0, .int 255 0, .int 255 0, .int 255 0, .int 255 0, .int 255 0, .int 255 0, .int 255 0, .int 255 0, .int 255 0, .int 255 0, .int 255 0, .int 255 0, .int 255 0, .int 255 0, .int 255 0, .int 255 0, .int 255 0, .int 255 0, .int 255 0, .int 255 0, .int 255 0, .int 255 0, .int 255 0, .int 255 0, .int 255 0, .int 255 0, .int 255 0, .int 255 0, .int 255 0, .int 255 0, .int 255 0, .int 255 0, .int 255 0, .int 255 0, .int 255 0, .int 255 0, .int 255 0, .int 255 0, .int 255 0, .int 255 0, .int 255 0, .int 255 0, .int 255 0, .int 255 0, .int 255 0, .int 255 0, .int 255 0, .int 255 0, .int 255 0, .int 255 0, .int 255 0, .int 255 0, .int 255 0, .int 255 0, .int 255 0, .int 255 0, .int 255 0, .int 255 0, .int 255 0, .int 255 0, .int 255 0, .int 255 0, .int 255 0, .int 255 0, .int 255 0, .int 255 0, .int 255 0, .int 255 0, .int 255 0, .int 255 0, .int 255 0, .int 255 0]), .mk (o2 (storeG 265) (.st 0) (.st 1))] [(5, 1)]
theorem kKin_7_eq : kx C run lp (kKin_7 C) ⟨kKin_T v0 v1 v2 v3 v5 v6 v9 v10 v11 v12 v19, h⟩ = kNrm (idxS 265 v9 v11 h (fun a0 h => loadG 265 a0 h (fun a1 h => newA h (.cells kKin_Z36 37) (fun a2 h => storeG 265 a2 a1 h (fun a3 h => some (.st (kKin_T v0 v1 v2 v3 a2 v6 v9 v10 v11 v12 v19) h)))))) := (rfl)
def kKin_8 (C : Cx) : K := .reg [.mk (o1 (moveP 0) (.tr 5)), .mk (o1 load1 (.st 0)), .mk (oCallF 8 [(.st 0)]), .mk (o1 moveA (.st 0))] [(6, 0)]
theorem kKin_8_eq : kx C run lp (kKin_8 C) ⟨kKin_T v0 v1 v2 v3 v5 v6 v9 v10 v11 v12 v19, h⟩ = kNrm (moveP 0 v5 h (fun a0 h => load1 a0 h (fun a1 h => withX (fun a2 h => moveA a2 h (fun a3 h => some (.st (kKin_T v0 v1 v2 v3 v5 a3 v9 v10 v11 v12 v19) h))) (callA C run 8 [a1] h)))) := (rfl)
def kKin_9 (C : Cx) : K := .reg [.mk (o1 moveA (.tr 6)), .mk (o2 (strCmp neS) (.st 0) (.cst (.str [])))] [(19, 0)]
theorem kKin_9_eq : kx C run lp (kKin_9 C) ⟨kKin_T v0 v1 v2 v3 v5 v6 v9 v10 v11 v12 v19, h⟩ = kNrm (moveA v6 h (fun a0 h => strCmp neS a0 (.str []) h (fun a1 h => some (.st (kKin_T v0 v1 v2 v3 v5 v6 v9 v10 v11 v12 a1) h)))) := (rfl)
def kKin_10 (C : Cx) : K := .reg [.mk (o1 moveA (.tr 3)), .mk (o1 moveA (.tr 6)), .mk (o2 (lookA ⟨.string, 1, 16, [.str []], false, true⟩ ⟨(.int .i64), 1, 8, [.int 9223372036854775807 0], false, true⟩ false) (.st 1) (.st 0)), .mk (o2 (arith iadd) (.st 0) (.cst (.int 9223372036854775807 1))), .mk (o3 (mapSetA ⟨.string, 1, 16, [.str []], false, true⟩) (.st 3) (.st 2) (.st 0))] []
theorem kKin_10_eq : kx C run lp (kKin_10 C) ⟨kKin_T v0 v1 v2 v3 v5 v6 v9 v10 v11 v12 v19, h⟩ = kNrm (moveA v3 h (fun a0 h => moveA v6 h (fun a1 h => lookA ⟨.string, 1, 16, [.str []], false, true⟩ ⟨(.int .i64), 1, 8, [.int 9223372036854775807 0], false, true⟩ false a0 a1 h (fun a2 h => arith iadd a2 (.int 9223372036854775807 1) h (fun a3 h => mapSetA ⟨.string, 1, 16, [.str []], false, true⟩ a0 a1 a3 h (fun a4 h => some (.st (kKin_T v0 v1 v2 v3 v5 v6 v9 v10 v11 v12 v19) h))))))) := (rfl)
def kKin_11 (_ : Cx) : K := .skip
theorem kKin_11_eq : kx C run lp (kKin_11 C) s = some (.nrm, s) := (rfl)
def kKin_12 (C : Cx) : K := .cond (.tr 19) (kKin_10 C) (kKin_11 C)
theorem kKin_12_eq : kx C run lp (kKin_12 C) ⟨kKin_T v0 v1 v2 v3 v5 v6 v9 v10 v11 v12 v19, h⟩ = kIf v19 (kx C run lp (kKin_10 C)) (kx C run lp (kKin_11 C)) ⟨kKin_T v0 v1 v2 v3 v5 v6 v9 v10 v11 v12 v19, h⟩ := (rfl)
def kKin_13 (C : Cx) : K := .seq (kKin_9 C) (kKin_12 C)
theorem kKin_13_eq : kx C run lp (kKin_13 C) s = obind (kx C run lp (kKin_9 C) s) (kThen (kx C run lp (kKin_12 C))) := (rfl)
def kKin_14 (C : Cx) : K := .seq (kKin_8 C) (kKin_13 C)
theorem kKin_14_eq : kx C run lp (kKin_14 C) s = obind (kx C run lp (kKin_8 C) s) (kThen (kx C run lp (kKin_13 C))) := (rfl)
def kKin_15 (C : Cx) : K := .seq (kKin_7 C) (kKin_14 C)
theorem kKin_15_eq : kx C run lp (kKin_15 C) s = obind (kx C run lp (kKin_7 C) s) (kThen (kx C run lp (kKin_14 C))) := (rfl)
def kKin_16 (C : Cx) : K := .block 1 (kKin_15 C)
theorem kKin_16_eq : kx C run lp (kKin_16 C) s = obind (kx C run lp (kKin_15 C) s) (kOut 1) := (rfl)
def kKin_17 (C : Cx) : K := .reg [.mk (o2 (arith iadd) (.tr 11) (.cst (.int 9223372036854775807 1))), .mk (o1 moveA (.st 0))] [(11, 0)]
theorem kKin_17_eq : kx C run lp (kKin_17 C) ⟨kKin_T v0 v1 v2 v3 v5 v6 v9 v10 v11 v12 v19, h⟩ = kNrm (arith iadd v11 (.int 9223372036854775807 1) h (fun a0 h => moveA a0 h (fun a1 h => some (.st (kKin_T v0 v1 v2 v3 v5 v6 v9 v10 a1 v12 v19) h)))) := (rfl)
def kKin_18 (C : Cx) : K := .seq (kKin_16 C) (kKin_17 C)
theorem kKin_18_eq : kx C run lp (kKin_18 C) s = obind (kx C run lp (kKin_16 C) s) (kThen (kx C run lp (kKin_17 C))) := (rfl)
def kKin_19 (C : Cx) : K := .seq (kKin_6 C) (kKin_18 C)
theorem kKin_19_eq : kx C run lp (kKin_19 C) s = obind (kx C run lp (kKin_6 C) s) (kThen (kx C run lp (kKin_18 C))) := (rfl)
def kKin_20 (C : Cx) : K := .seq (kKin_3 C) (kKin_19 C)
theorem kKin_20_eq : kx C run lp (kKin_20 C) s = obind (kx C run lp (kKin_3 C) s) (kThen (kx C run lp (kKin_19 C))) := (rfl)
def kKin_21 (C : Cx) : K := .loop (kKin_20 C)
theorem kKin_21_eq : kx C run lp (kKin_21 C) s = lp (kKin_20 C) s := (rfl)
def kKin_22 (C : Cx) : K := .block 0 (kKin_21 C)
theorem kKin_22_eq : kx C run lp (kKin_22 C) s = obind (kx C run lp (kKin_21 C) s) (kOut 0) := (rfl)
def kKin_23 (C : Cx) : K := .seq (kKin_2 C) (kKin_22 C)
theorem kKin_23_eq : kx C run lp (kKin_23 C) s = obind (kx C run lp (kKin_2 C) s) (kThen (kx C run lp (kKin_22 C))) := (rfl)
def kKin_24 (C : Cx) : K := .reg [.mk (o1 moveA (.tr 3)), .mk (o1 moveA (.st 0))] [(2, 0)]
theorem kKin_24_eq : kx C run lp (kKin_24 C) ⟨kKin_T v0 v1 v2 v3 v5 v6 v9 v10 v11 v12 v19, h⟩ = kNrm (moveA v3 h (fun a0 h => moveA a0 h (fun a1 h => some (.st (kKin_T v0 v1 a1 v3 v5 v6 v9 v10 v11 v12 v19) h)))) := (rfl)
def kKin_25 (_ : Cx) : K := .ex .ret
theorem kKin_25_eq : kx C run lp (kKin_25 C) s = some (.ret, s) := (rfl)
def kKin_26 (C : Cx) : K := .seq (kKin_24 C) (kKin_25 C)
theorem kKin_26_eq : kx C run lp (kKin_26 C) s = obind (kx C run lp (kKin_24 C) s) (kThen (kx C run lp (kKin_25 C))) := (rfl)
def kKin_27 (C : Cx) : K := .seq (kKin_23 C) (kKin_26 C)
theorem kKin_27_eq : kx C run lp (kKin_27 C) s = obind (kx C run lp (kKin_23 C) s) (kThen (kx C run lp (kKin_26 C))) := (rfl)
def kKin_28 (C : Cx) : K := .seq (kKin_1 C) (kKin_27 C)
theorem kKin_28_eq : kx C run lp (kKin_28 C) s = obind (kx C run lp (kKin_1 C) s) (kThen (kx C run lp (kKin_27 C))) := (rfl)
def kKin_29 (C : Cx) : K := .seq (kKin_0 C) (kKin_28 C)
theorem kKin_29_eq : kx C run lp (kKin_29 C) s = obind (kx C run lp (kKin_0 C) s) (kThen (kx C run lp (kKin_28 C))) := (rfl)
theorem kKin_ret : endA C [.tmp 2] (.ret, ⟨kKin_T v0 v1 v2 v3 v5 v6 v9 v10 v11 v12 v19, h⟩) = some (v2, h) := (rfl)
theorem kKin_nrm : endA C [.tmp 2] (.nrm, ⟨kKin_T v0 v1 v2 v3 v5 v6 v9 v10 v11 v12 v19, h⟩) = some (v2, h) := (rfl)
end
def kKin_F (C : Cx) : FK := ⟨kKin_29 C, [0, 1, 2, 3, 5, 6, 9, 10, 11, 12, 19], 26, [.tmp 2]⟩
theorem kKin_run (C : Cx) (run : Run) (lp : Lp) (x0 : AV) (h : AH) (ho : C.orc 7 = none) (hf : fkAt C 7 = some (kKin_F C)) : runF C run lp 7 [x0] h = obind (kx C run lp (kKin_29 C) ⟨kKin_T x0 .bot .bot .bot .bot .bot .bot .bot .bot .bot .bot, h⟩) (endA C [.tmp 2]) := by
  unfold runF; rw [ho, hf]; rfl
/- guipure/code.Name -/
def kNam_T (v0 v2 v3 v10 : AV) : Tm := (.nd 3 (.nd 2 (.lf 0 v0) (.lf 2 v2)) (.nd 10 (.lf 3 v3) (.lf 10 v10)))
section
variable (C : Cx) (run : Run) (lp : Lp) (s : St) (h : AH) (v0 v2 v3 v10 : AV)
def kNam_0 (C : Cx) : K := .reg [.mk (o1 moveA (.cst (.str [])))] [(2, 0)]
theorem kNam_0_eq : kx C run lp (kNam_0 C) ⟨kNam_T v0 v2 v3 v10, h⟩ = kNrm (moveA (.str []) h (fun a0 h => some (.st (kNam_T v0 a0 v3 v10) h))) := (rfl)
def kNam_1 (C : Cx) : K := .reg [.mk (oCallF 18 [(.cst (.str [111, 112, 101, 110, 32, 99, 108, 111, 115, 101, 32, 102, 105, 120, 101, 100, 32, 118, 97, 114, 105, 110, 116, 32, 116, 111, 107, 101, 110, 32, 98, 108, 111, 98, 32, 101, 110, 116, 101, 114, 32, 108, 101, 97, 118, 101, 32, 99, 111, 117, 110, 116, 32, 110, 101, 120, 116, 32, 106, 117, 109, 112, 32, 109, 97, 110, 121, 32, 115, 119, 105, 116, 99, 104, 32, 99, 104, 111, 105, 99, 101, 32, 99, 97, 108, 108, 32, 114, 101, 116, 117, 114, 110, 32, 109, 97, 114, 107, 32, 115, 116, 111, 112, 32, 115, 117, 109, 32, 101, 110, 100])), (.cst (.str [32]))]), .mk (o1 moveA (.st 0))] [(3, 0)]
theorem kNam_1_eq : kx C run lp (kNam_1 C) ⟨kNam_T v0 v2 v3 v10, h⟩ = kNrm (withX (fun a0 h => moveA a0 h (fun a1 h => some (.st (kNam_T v0 v2 a1 v10) h))) (callA C run 18 [(.str [111, 112, 101, 110, 32, 99, 108, 111, 115, 101, 32, 102, 105, 120, 101, 100, 32, 118, 97, 114, 105, 110, 116, 32, 116, 111, 107, 101, 110, 32, 98, 108, 111, 98, 32, 101, 110, 116, 101, 114, 32, 108, 101, 97, 118, 101, 32, 99, 111, 117, 110, 116, 32, 110, 101, 120, 116, 32, 106, 117, 109, 112, 32, 109, 97, 110, 121, 32, 115, 119, 105, 116, 99, 104, 32, 99, 104, 111, 105, 99, 101, 32, 99, 97, 108, 108, 32, 114, 101, 116, 117, 114, 110, 32, 109, 97, 114, 107, 32, 115, 116, 111, 112, 32, 115, 117, 109, 32, 101, 110, 100]), (.str [32])] h)) := (rfl)
def kNam_2 (C : Cx) : K := .reg [.mk (o1 moveA (.tr 0)), .mk (o2 (cmp ilt) (.st 0) (.cst (.int 9223372036854775807 1))), .mk (o1 moveA (.st 0)), .mk (guardA (.st 0) false ((o1 moveA (.tr 0)))), .mk (guardA (.st 1) false ((o2 (cmp igt) (.st 0) (.cst (.int 9223372036854775807 20))))), .mk (o3 pickA (.st 2) (.cst (.bool true)) (.st 0))] [(10, 0)]
theorem kNam_2_eq : kx C run lp (kNam_2 C) ⟨kNam_T v0 v2 v3 v10, h⟩ = kNrm (moveA v0 h (fun a0 h => cmp ilt a0 (.int 9223372036854775807 1) h (fun a1 h => moveA a1 h (fun a2 h => guardC a2 false (fun κ => moveA v0 h (κ)) h (fun a3 h => guardC a2 false (fun κ => cmp igt a3 (.int 9223372036854775807 20) h (κ)) h (fun a4 h => pickA a2 (.bool true) a4 h (fun a5 h => some (.st (kNam_T v0 v2 v3 a5) h)))))))) := (rfl)
def kNam_3 (C : Cx) : K := .reg [.mk (o1 moveA (.cst (.str [])))] [(2, 0)]
theorem kNam_3_eq : kx C run lp (kNam_3 C) ⟨kNam_T v0 v2 v3 v10, h⟩ = kNrm (moveA (.str []) h (fun a0 h => some (.st (kNam_T v0 a0 v3 v10) h))) := (rfl)
def kNam_4 (_ : Cx) : K := .ex .ret
theorem kNam_4_eq : kx C run lp (kNam_4 C) s = some (.ret, s) := (rfl)
def kNam_5 (C : Cx) : K := .seq (kNam_3 C) (kNam_4 C)
theorem kNam_5_eq : kx C run lp (kNam_5 C) s = obind (kx C run lp (kNam_3 C) s) (kThen (kx C run lp (kNam_4 C))) := (rfl)
def kNam_6 (_ : Cx) : K := .skip
theorem kNam_6_eq : kx C run lp (kNam_6 C) s = some (.nrm, s) := (rfl)
def kNam_7 (C : Cx) : K := .cond (.tr 10) (kNam_5 C) (kNam_6 C)
theorem kNam_7_eq : kx C run lp (kNam_7 C) ⟨kNam_T v0 v2 v3 v10, h⟩ = kIf v10 (kx C run lp (kNam_5 C)) (kx C run lp (kNam_6 C)) ⟨kNam_T v0 v2 v3 v10, h⟩ := (rfl)
def kNam_8 (C : Cx) : K := .seq (kNam_2 C) (kNam_7 C)
theorem kNam_8_eq : kx C run lp (kNam_8 C) s = obind (kx C run lp (kNam_2 C) s) (kThen (kx C run lp (kNam_7 C))) := (rfl)
def kNam_9 (C : Cx) : K := .reg [.mk (o1 moveA (.tr 3)), .mk (o1 moveA (.tr 0)), .mk (o2 (arith isub) (.st 0) (.cst (.int 9223372036854775807 1))), .mk (o2 (idxS 1) (.st 2) (.st 0)), .mk (o1 load1 (.st 0)), .mk (o1 moveA (.st 0))] [(2, 0)]
theorem kNam_9_eq : kx C run lp (kNam_9 C) ⟨kNam_T v0 v2 v3 v10, h⟩ = kNrm (moveA v3 h (fun a0 h => moveA v0 h (fun a1 h => arith isub a1 (.int 9223372036854775807 1) h (fun a2 h => idxS 1 a0 a2 h (fun a3 h => load1 a3 h (fun a4 h => moveA a4 h (fun a5 h => some (.st (kNam_T v0 a5 v3 v10) h)))))))) := (rfl)
def kNam_10 (_ : Cx) : K := .ex .ret
theorem kNam_10_eq : kx C run lp (kNam_10 C) s = some (.ret, s) := (rfl)
def kNam_11 (C : Cx) : K := .seq (kNam_9 C) (kNam_10 C)
theorem kNam_11_eq : kx C run lp (kNam_11 C) s = obind (kx C run lp (kNam_9 C) s) (kThen (kx C run lp (kNam_10 C))) := (rfl)
def kNam_12 (C : Cx) : K := .seq (kNam_8 C) (kNam_11 C)
theorem kNam_12_eq : kx C run lp (kNam_12 C) s = obind (kx C run lp (kNam_8 C) s) (kThen (kx C run lp (kNam_11 C))) := (rfl)
def kNam_13 (C : Cx) : K := .seq (kNam_1 C) (kNam_12 C)
theorem kNam_13_eq : kx C run lp (kNam_13 C) s = obind (kx C run lp (kNam_1 C) s) (kThen (kx C run lp (kNam_12 C))) := (rfl)
def kNam_14 (C : Cx) : K := .seq (kNam_0 C) (kNam_13 C)
theorem kNam_14_eq : kx C run lp (kNam_14 C) s = obind (kx C run lp (kNam_0 C) s) (kThen (kx C run lp (kNam_13 C))) := (rfl)
theorem kNam_ret : endA C [.tmp 2] (.ret, ⟨kNam_T v0 v2 v3 v10, h⟩) = some (v2, h) := (rfl)
theorem kNam_nrm : endA C [.tmp 2] (.nrm, ⟨kNam_T v0 v2 v3 v10, h⟩) = some (v2, h) := (rfl)
end
def kNam_F (C : Cx) : FK := ⟨kNam_14 C, [0, 2, 3, 10], 16, [.tmp 2]⟩
theorem kNam_run (C : Cx) (run : Run) (lp : Lp) (x0 : AV) (h : AH) (ho : C.orc 8 = none) (hf : fkAt C 8 = some (kNam_F C)) : runF C run lp 8 [x0] h = obind (kx C run lp (kNam_14 C) ⟨kNam_T x0 .bot .bot .bot, h⟩) (endA C [.tmp 2]) := by
  unfold runF; rw [ho, hf]; rfl

theorem kLaw_fk (mx : Int) : fkAt (CL mx) 4 = some (kLaw_F (CL mx)) := by kernel_rfl
theorem kKin_fk (mx : Int) : fkAt (CL mx) 7 = some (kKin_F (CL mx)) := by kernel_rfl
theorem kNam_fk (mx : Int) : fkAt (CL mx) 8 = some (kNam_F (CL mx)) := by kernel_rfl
def namesL : List (List Nat) := match cop10.2 with | .slp cs _ => cs.map (fun c => match c with | .str l => l | _ => []) | _ => []
/-- A kind's name. -/
def nameOf (k : Int) : List Nat := if 1 ≤ k ∧ k ≤ 20 then (namesL[(k - 1).toNat]?).getD [] else []
end
theorem cl_ok {mx : Int} : CxOk Tryz.prog (CL mx) := CxOk.told c0_ok (show MemosOk _ _ _ from ⟨List.forall_mem_cons.2 ⟨co_head c0_ok, fun _ h => nomatch h⟩, List.forall_mem_cons.2 ⟨com10 c0_ok, fun _ h => nomatch h⟩⟩)
set_option maxRecDepth 100000 in
theorem name_run (mx : Int) (n : Nat) (k : Int) (h0 : -9223372036854775808 ≤ k) (h1 : k ≤ 9223372036854775807) : (rl (CL mx) (n + 1)).run 8 [.int 9223372036854775807 k] [] = some (.str (nameOf k), []) := by
  by_cases hk : 1 ≤ k ∧ k ≤ 20
  · have : k = 1 ∨ k = 2 ∨ k = 3 ∨ k = 4 ∨ k = 5 ∨ k = 6 ∨ k = 7 ∨ k = 8 ∨ k = 9 ∨ k = 10 ∨ k = 11 ∨ k = 12 ∨ k = 13 ∨ k = 14 ∨ k = 15 ∨ k = 16 ∨ k = 17 ∨ k = 18 ∨ k = 19 ∨ k = 20 := by omega
    rcases this with rfl | rfl | rfl | rfl | rfl | rfl | rfl | rfl | rfl | rfl | rfl | rfl | rfl | rfl | rfl | rfl | rfl | rfl | rfl | rfl <;> (show _ = _; kernel_rfl)
  · have hn : nameOf k = [] := by unfold nameOf; rw [if_neg hk]
    rw [hn, rl_run, kNam_run _ _ _ _ _ (by kernel_rfl) (kNam_fk mx)]
    have hsp := fun h => callA_memo (C := CL mx) (run := (rl (CL mx) n).run) (h := h) (f := 18) (args := cop10.1) (v := cop10.2) (by kernel_rfl) (by kernel_rfl) (by kernel_rfl)
    simp only [cop10, cov10_1] at hsp
    by_cases h2 : k < 1
    · simp only [guardC_b, guardC_u, beqB_tt, beqB_tf, beqB_ft, beqB_ff, min_eq, max_eq, vhO_kVH, ckX_same, bldS_int2, lt_agg, lt_tup, lt_int, lt_bool, lt_str, lt_nils, lt_sle, lt_nil, lt_slp, lt_ptp, kNrm_st, obindS, obindN, kThen_nrm, kThen_ret, kThen_exit, kOut_nrm, kOut_ret, kOut_exit, kIf_b, bqT, bqF, moveA_eq, pickA_eq, boxA_eq, newA_eq, cmp_eq, arith_eq, remA_eq, quoA_eq, notA_eq, negA_eq, cvI_eq, moveP_o, moveP_p, blkC_cells, load1_o, load1_p, loadG_o, loadG_p, store1_o, storeG_o, lenS_nils, lenS_sle, lenS_p, lenS_o, lenT_eq, idxS_p, idxS_o, idxT_eq, idxA_o, idxV1_eq, fld1_eq, fldG_eq, extA_eq, nilCk_o, nilCk_p, strAdd_eq, strCmp_eq, withX_some, withX_none, iaddE, isubE, imulE, iltE, igtE, ileE, igeE, ineE, ibeqE, hget_top, hget_zero, hget_succ, set_top, plains_nil, plains_cons, plain_int, plain_bool, plain_str, plain_nils, plain_slp, plain_sle, plain_nil, plain_pto, plain_ptp, plain_slo, nb_agg, nb_int, nb_bool, nb_str, nb_slp, nb_nils, nb_sle, nb_slo, cells_agg, cells_int, cells_bool, cells_str, List.length_cons, List.length_nil, List.length_append, List.take_succ_cons, List.take_zero, List.drop_succ_cons, List.drop_zero, List.cons_append, List.nil_append, List.append_nil, List.drop_nil, List.take_nil, List.getElem?_cons_zero, List.getElem?_cons_succ, List.set_cons_zero, List.set_cons_succ, Nat.reduceAdd, Nat.reduceMul, Nat.reduceSub, Nat.reduceLeDiff, Nat.reduceEqDiff, Nat.reduceLT, Nat.zero_add, Nat.add_zero, decide_true, decide_false, Bool.and_true, Bool.true_and, Bool.and_false, Bool.false_and, Bool.not_true, Bool.not_false, Nat.le_refl, reduceIte, kNam_0_eq, kNam_1_eq, kNam_2_eq, kNam_3_eq, kNam_4_eq, kNam_5_eq, kNam_6_eq, kNam_7_eq, kNam_8_eq, kNam_9_eq, kNam_10_eq, kNam_11_eq, kNam_12_eq, kNam_13_eq, kNam_14_eq, kNam_ret, kNam_nrm, hsp, decide_eq_true h2]
    · have h3 : (20 : Int) < k := by omega
      simp only [guardC_b, guardC_u, beqB_tt, beqB_tf, beqB_ft, beqB_ff, min_eq, max_eq, vhO_kVH, ckX_same, bldS_int2, lt_agg, lt_tup, lt_int, lt_bool, lt_str, lt_nils, lt_sle, lt_nil, lt_slp, lt_ptp, kNrm_st, obindS, obindN, kThen_nrm, kThen_ret, kThen_exit, kOut_nrm, kOut_ret, kOut_exit, kIf_b, bqT, bqF, moveA_eq, pickA_eq, boxA_eq, newA_eq, cmp_eq, arith_eq, remA_eq, quoA_eq, notA_eq, negA_eq, cvI_eq, moveP_o, moveP_p, blkC_cells, load1_o, load1_p, loadG_o, loadG_p, store1_o, storeG_o, lenS_nils, lenS_sle, lenS_p, lenS_o, lenT_eq, idxS_p, idxS_o, idxT_eq, idxA_o, idxV1_eq, fld1_eq, fldG_eq, extA_eq, nilCk_o, nilCk_p, strAdd_eq, strCmp_eq, withX_some, withX_none, iaddE, isubE, imulE, iltE, igtE, ileE, igeE, ineE, ibeqE, hget_top, hget_zero, hget_succ, set_top, plains_nil, plains_cons, plain_int, plain_bool, plain_str, plain_nils, plain_slp, plain_sle, plain_nil, plain_pto, plain_ptp, plain_slo, nb_agg, nb_int, nb_bool, nb_str, nb_slp, nb_nils, nb_sle, nb_slo, cells_agg, cells_int, cells_bool, cells_str, List.length_cons, List.length_nil, List.length_append, List.take_succ_cons, List.take_zero, List.drop_succ_cons, List.drop_zero, List.cons_append, List.nil_append, List.append_nil, List.drop_nil, List.take_nil, List.getElem?_cons_zero, List.getElem?_cons_succ, List.set_cons_zero, List.set_cons_succ, Nat.reduceAdd, Nat.reduceMul, Nat.reduceSub, Nat.reduceLeDiff, Nat.reduceEqDiff, Nat.reduceLT, Nat.zero_add, Nat.add_zero, decide_true, decide_false, Bool.and_true, Bool.true_and, Bool.and_false, Bool.false_and, Bool.not_true, Bool.not_false, Nat.le_refl, reduceIte, kNam_0_eq, kNam_1_eq, kNam_2_eq, kNam_3_eq, kNam_4_eq, kNam_5_eq, kNam_6_eq, kNam_7_eq, kNam_8_eq, kNam_9_eq, kNam_10_eq, kNam_11_eq, kNam_12_eq, kNam_13_eq, kNam_14_eq, kNam_ret, kNam_nrm, hsp, decide_eq_false h2, decide_eq_true h3]
theorem name_call (mx : Int) (n : Nat) (k : Int) (h0 : -9223372036854775808 ≤ k) (h1 : k ≤ 9223372036854775807) (h : AH) : callA (CL mx) (rl (CL mx) (n + 1)).run 8 [.int 9223372036854775807 k] h = some (.str (nameOf k), h) :=
  callA_pure (by kernel_rfl) (by rfl) (by kernel_rfl) (name_run mx n k h0 h1) (by rfl)
/- names and how often they were met -/
abbrev Cnt := List (List Nat × Int)
def mkL (M : Cnt) : List AV := M.map fun e => .str e.1
def mvL (M : Cnt) : List AV := M.map fun e => .int 9223372036854775807 e.2
def fnd (s : List Nat) : Cnt → Option Nat
  | [] => none
  | e :: r => if s = e.1 then some 0 else (fnd s r).map (· + 1)
def cnt (s : List Nat) : Cnt → Int
  | [] => 0
  | e :: r => if s = e.1 then e.2 else cnt s r
def put (s : List Nat) (v : Int) : Cnt → Cnt
  | [] => [(s, v)]
  | e :: r => if s = e.1 then (s, v) :: r else e :: put s v r
theorem eqS_dec (a b : List Nat) : eqS a b = decide (a = b) := by
  by_cases h : a = b
  · subst h; rw [eqS_refl]; simp
  · rw [decide_eq_false h, Bool.eq_false_iff]
    exact fun c => h (eqS_nat _ _ c)
theorem findA_fnd (s : List Nat) : ∀ M : Cnt, findA (.str s) (mkL M) = some (fnd s M)
  | [] => rfl
  | e :: r => by
    show (match some (eqS s e.1) with | some true => some (some 0) | some false => (match findA (.str s) (mkL r) with | some (some i) => some (some (i + 1)) | x => x) | none => none) = some (if s = e.1 then some 0 else (fnd s r).map (· + 1))
    rw [eqS_dec, findA_fnd s r]
    by_cases h : s = e.1
    · rw [decide_eq_true h, if_pos h]
    · rw [decide_eq_false h, if_neg h]
      cases fnd s r <;> rfl
theorem fnd_cnt (s : List Nat) : ∀ M : Cnt, (match fnd s M with | some i => (mvL M)[i]? | none => some (.int 9223372036854775807 0)) = some (.int 9223372036854775807 (cnt s M))
  | [] => rfl
  | e :: r => by
    have ih := fnd_cnt s r
    unfold fnd cnt
    by_cases h : s = e.1
    · rw [if_pos h, if_pos h]; rfl
    · rw [if_neg h, if_neg h]
      cases hf : fnd s r with
      | none => rw [hf] at ih; exact ih
      | some i => rw [hf] at ih; exact ih
theorem fnd_put (s : List Nat) (v : Int) : ∀ M : Cnt, (match fnd s M with | some i => (mkL M).set i (.str s) = mkL (put s v M) ∧ (mvL M).set i (.int 9223372036854775807 v) = mvL (put s v M) | none => mkL M ++ [.str s] = mkL (put s v M) ∧ mvL M ++ [.int 9223372036854775807 v] = mvL (put s v M))
  | [] => ⟨rfl, rfl⟩
  | e :: r => by
    have ih := fnd_put s v r
    unfold fnd put
    by_cases h : s = e.1
    · rw [if_pos h, if_pos h]; exact ⟨rfl, rfl⟩
    · rw [if_neg h, if_neg h]
      cases hf : fnd s r with
      | none => rw [hf] at ih; exact ⟨congrArg (AV.str e.1 :: ·) ih.1, congrArg (AV.int 9223372036854775807 e.2 :: ·) ih.2⟩
      | some i => rw [hf] at ih; exact ⟨congrArg (AV.str e.1 :: ·) ih.1, congrArg (AV.int 9223372036854775807 e.2 :: ·) ih.2⟩
theorem look_of {m : AV} {M : Cnt} {h : AH} (e : mapOf h m = some (mkL M, mvL M)) (s : List Nat) (κ : Ka) :
    lookA ⟨.string, 1, 16, [.str []], false, true⟩ ⟨(.int .i64), 1, 8, [.int 9223372036854775807 0], false, true⟩ false m (.str s) h κ = κ (.int 9223372036854775807 (cnt s M)) h := by
  unfold lookA
  rw [e, obind_some]
  show bq true (obind (findA (.str s) (mkL M)) _) none = _
  rw [bq_true, findA_fnd, obind_some]
  have := fnd_cnt s M
  cases hf : fnd s M with
  | none =>
    rw [hf] at this
    simp only [Option.some.injEq] at this
    rw [← this]; rfl
  | some i =>
    rw [hf] at this
    have this : (mvL M)[i]? = some (.int 9223372036854775807 (cnt s M)) := this
    show withV κ h (obind (fget (mvL M) i) _) = _
    rw [fget_eq, this]; rfl
theorem mput_of {b : Nat} {M : Cnt} {h : AH} (e : hget h b = some (.map (mkL M) (mvL M))) (s : List Nat) (v : Int) (κ : Ka) :
    mapSetA ⟨.string, 1, 16, [.str []], false, true⟩ (.mpo b) (.str s) (.int 9223372036854775807 v) h κ = κ (.tup []) (h.set b (some (.map (mkL (put s v M)) (mvL (put s v M))))) := by
  show obind (hget h b) _ = _
  rw [e, obind_some]
  show bq true (obind (findA (.str s) (mkL M)) fun i => κ (.tup []) (setM (.str s) (.int 9223372036854775807 v) h b (mkL M) (mvL M) i)) none = _
  rw [bq_true, findA_fnd, obind_some]
  have := fnd_put s v M
  cases hf : fnd s M with
  | none =>
    rw [hf] at this
    have this : mkL M ++ [.str s] = mkL (put s v M) ∧ mvL M ++ [.int 9223372036854775807 v] = mvL (put s v M) := this
    show κ (.tup []) (fset (some (.map (fapp (mkL M) [.str s]) (fapp (mvL M) [.int 9223372036854775807 v]))) h b) = _
    rw [fset_eq, fapp_eq, fapp_eq, this.1, this.2]
  | some i =>
    rw [hf] at this
    have this : (mkL M).set i (.str s) = mkL (put s v M) ∧ (mvL M).set i (.int 9223372036854775807 v) = mvL (put s v M) := this
    show κ (.tup []) (fset (some (.map (fset (.str s) (mkL M) i) (fset (.int 9223372036854775807 v) (mvL M) i))) h b) = _
    rw [fset_eq, fset_eq, fset_eq, this.1, this.2]
/-- One more of a kind. -/
noncomputable def more (M : Cnt) (k : Int) : Cnt := if nameOf k = [] then M else put (nameOf k) (cnt (nameOf k) M + 1) M
def Good (M : Cnt) : Prop := ∀ e ∈ M, e.1 ≠ [] ∧ 1 ≤ e.2
def tot (M : Cnt) : Int := (M.map (·.2)).sum
theorem cnt_bound : ∀ {M : Cnt}, Good M → ∀ s, 0 ≤ cnt s M ∧ cnt s M ≤ tot M ∧ 0 ≤ tot M
  | [], _, s => by simp [cnt, tot]
  | e :: r, g, s => by
    obtain ⟨a1, a2, a3⟩ := cnt_bound (fun x hx => g x (List.mem_cons_of_mem _ hx)) s
    have g1 := (g e (List.mem_cons_self ..)).2
    have : tot (e :: r) = e.2 + tot r := by simp [tot]
    unfold cnt
    split <;> omega
theorem put_good {s : List Nat} {v : Int} (hs : s ≠ []) (hv : 1 ≤ v) : ∀ {M : Cnt}, Good M → Good (put s v M)
  | [], _, e, he => by
    have : e = (s, v) := by simpa [put] using he
    subst this; exact ⟨hs, hv⟩
  | x :: r, g, e, he => by
    unfold put at he
    split at he
    · rcases List.mem_cons.1 he with rfl | h
      · exact ⟨hs, hv⟩
      · exact g e (List.mem_cons_of_mem _ h)
    · rcases List.mem_cons.1 he with rfl | h
      · exact g _ (List.mem_cons_self ..)
      · exact put_good hs hv (fun x hx => g x (List.mem_cons_of_mem _ hx)) e h
theorem put_tot (s : List Nat) (v : Int) : ∀ M : Cnt, tot (put s v M) = tot M + v - cnt s M
  | [] => by simp [put, tot, cnt]
  | e :: r => by
    have ih := put_tot s v r
    unfold put cnt
    split <;> simp [tot] at * <;> omega
theorem put_cnt (s : List Nat) (v : Int) (t : List Nat) : ∀ M : Cnt, cnt t (put s v M) = if t = s then v else cnt t M
  | [] => by simp [put, cnt]
  | e :: r => by
    have ih := put_cnt s v t r
    unfold put
    by_cases h : s = e.1
    · rw [if_pos h]
      by_cases ht : t = s
      · simp [cnt, ht]
      · have : t ≠ e.1 := fun c => ht (c.trans h.symm)
        simp [cnt, ht, this]
    · rw [if_neg h]
      by_cases ht : t = e.1
      · have : t ≠ s := fun c => h (c.symm.trans ht)
        have hs : ¬ e.1 = s := fun c => h c.symm
        simp [cnt, ht, hs]
      · simp only [cnt, if_neg ht, ih]
/-- How many kinds have a name. -/
noncomputable def named (ks : List Int) : Nat := (ks.filter fun k => decide (nameOf k ≠ [])).length
structure Met (M : Cnt) (ks : List Int) : Prop where
  good : Good M
  tot : tot M = named ks
  met : ∀ k ∈ ks, nameOf k ≠ [] → 1 ≤ cnt (nameOf k) M
theorem Met.nil : Met [] [] := { good := fun _ h => (nomatch h), tot := rfl, met := fun _ h => (nomatch h) }
theorem Met.snoc {M : Cnt} {ks : List Int} {k : Int} (h : Met M ks) : Met (more M k) (ks ++ [k]) := by
  unfold more
  obtain ⟨h1, h2, h3⟩ := h
  by_cases hk : nameOf k = []
  · rw [if_pos hk]
    refine ⟨h1, ?_, fun x hx hn => ?_⟩
    · rw [h2]; simp [named, hk]
    · rcases List.mem_append.1 hx with h | h
      · exact h3 x h hn
      · obtain rfl : x = k := by simpa using h
        exact absurd hk hn
  · rw [if_neg hk]
    have hb := cnt_bound h1 (nameOf k)
    refine ⟨put_good hk (by omega) h1, ?_, fun x hx hn => ?_⟩
    · rw [put_tot, h2]
      have : named (ks ++ [k]) = named ks + 1 := by simp [named, hk]
      rw [this]; push_cast; omega
    · rw [put_cnt]
      split
      · omega
      · rcases List.mem_append.1 hx with h | h
        · exact h3 x h hn
        · obtain rfl : x = k := by simpa using h
          exact absurd rfl ‹_›
theorem fz_mk (h : AH) (k : Nat) : ∀ M : Cnt, optL (fmap (fzV h (k + 1)) (mkL M)) = some (mkL M)
  | [] => rfl
  | e :: r => by
    show optL (some (AV.str e.1) :: fmap (fzV h (k + 1)) (mkL r)) = _
    simp only [optL, fz_mk h k r]; rfl
theorem fz_mv (h : AH) (k : Nat) : ∀ M : Cnt, optL (fmap (fzV h (k + 1)) (mvL M)) = some (mvL M)
  | [] => rfl
  | e :: r => by
    show optL (some (AV.int 9223372036854775807 e.2) :: fmap (fzV h (k + 1)) (mvL r)) = _
    simp only [optL, fz_mv h k r]; rfl
theorem fz_map {h : AH} {b : Nat} {M : Cnt} (e : hget h b = some (.map (mkL M) (mvL M))) : fzV h 40 (.mpo b) = some (.mpp (mkL M) (mvL M)) := by
  unfold fzV
  simp only [e]
  rw [fz_mk h 38 M, fz_mv h 38 M]; rfl
/- steps -/
structure Steps265 (cs : List AV) (ks : List Int) : Prop where
  len : cs.length = ks.length * 265
  get : ∀ j k, ks[j]? = some k → cs[j * 265]? = some (.int 9223372036854775807 k) ∧ -9223372036854775808 ≤ k ∧ k ≤ 9223372036854775807
  pl : plains cs = true
theorem plains_drop : ∀ (n : Nat) (l : List AV), plains l = true → plains (l.drop n) = true
  | 0, l, h => h
  | n + 1, [], h => h
  | n + 1, a :: r, h => by
    have h : and a.plain (plains r) = true := h
    rw [Bool.and_eq_true] at h
    exact plains_drop n r h.2
theorem plains_take : ∀ (n : Nat) (l : List AV), plains l = true → plains (l.take n) = true
  | 0, l, h => rfl
  | n + 1, [], h => h
  | n + 1, a :: r, h => by
    have h : and a.plain (plains r) = true := h
    rw [Bool.and_eq_true] at h
    show and a.plain (plains (r.take n)) = true
    rw [h.1, plains_take n r h.2]; rfl
theorem Steps265.at {cs : List AV} {ks : List Int} (S : Steps265 cs ks) {i : Nat} {k : Int} (hi : ks[i]? = some k) :
    i * 265 + 265 ≤ cs.length ∧ ((cs.drop (i * 265)).take 265).length = 265 ∧ plains ((cs.drop (i * 265)).take 265) = true ∧ ((cs.drop (i * 265)).take 265)[0]? = some (.int 9223372036854775807 k) := by
  have hl := (List.getElem?_eq_some_iff.1 hi).1
  have : i * 265 + 265 ≤ cs.length := by rw [S.len]; omega
  refine ⟨this, by simp; omega, plains_take _ _ (plains_drop _ _ S.pl), ?_⟩
  rw [List.getElem?_take_of_lt (by omega), List.getElem?_drop, Nat.add_zero]
  exact (S.get i k hi).1
theorem kin_loop (mx : Int) {cs : List AV} {ks : List Int} (S : Steps265 cs ks) (hl : ks.length ≤ 500) (sl : AV) (hsl : sl = .slp cs ks.length ∨ ks.length = 0) (v0 v1 v2 : AV) : ∀ (m i n : Nat) (h : AH) (M : Cnt) (v5 v6 v12 v19 : AV), i + m = ks.length → m + 2 ≤ n → Met M (ks.take i) → hget h 1 = some (.map (mkL M) (mvL M)) →
    ∃ M' u5 u6 u12 u19 h', (rl (CL mx) n).lp (kKin_20 (CL mx)) ⟨kKin_T v0 v1 v2 (.mpo 1) v5 v6 sl (.int 9223372036854775807 (ks.length : Int)) (.int 9223372036854775807 (i : Int)) v12 v19, h⟩ =
      some (.exit 0, ⟨kKin_T v0 v1 v2 (.mpo 1) u5 u6 sl (.int 9223372036854775807 (ks.length : Int)) (.int 9223372036854775807 (ks.length : Int)) u12 u19, h'⟩) ∧ Met M' ks ∧ hget h' 1 = some (.map (mkL M') (mvL M')) := by
  intro m
  induction m with
  | zero =>
    intro i n h M v5 v6 v12 v19 e hn hM hh
    obtain ⟨n, rfl⟩ : ∃ k, n = k + 1 := ⟨n - 1, by omega⟩
    obtain rfl : i = ks.length := by omega
    have hi : ¬ ((ks.length : Int) < (ks.length : Int)) := by omega
    refine ⟨M, v5, v6, .bool false, v19, h, ?_, by rwa [List.take_length] at hM, hh⟩
    rw [rl_lp]
    simp only [guardC_b, guardC_u, beqB_tt, beqB_tf, beqB_ft, beqB_ff, min_eq, max_eq, vhO_kVH, ckX_same, bldS_int2, lt_agg, lt_tup, lt_int, lt_bool, lt_str, lt_nils, lt_sle, lt_nil, lt_slp, lt_ptp, kNrm_st, obindS, obindN, kThen_nrm, kThen_ret, kThen_exit, kOut_nrm, kOut_ret, kOut_exit, kIf_b, bqT, bqF, moveA_eq, pickA_eq, boxA_eq, newA_eq, cmp_eq, arith_eq, remA_eq, quoA_eq, notA_eq, negA_eq, cvI_eq, moveP_o, moveP_p, blkC_cells, load1_o, load1_p, loadG_o, loadG_p, store1_o, storeG_o, lenS_nils, lenS_sle, lenS_p, lenS_o, lenT_eq, idxS_p, idxS_o, idxT_eq, idxA_o, idxV1_eq, fld1_eq, fldG_eq, extA_eq, nilCk_o, nilCk_p, strAdd_eq, strCmp_eq, withX_some, withX_none, iaddE, isubE, imulE, iltE, igtE, ileE, igeE, ineE, ibeqE, hget_top, hget_zero, hget_succ, set_top, plains_nil, plains_cons, plain_int, plain_bool, plain_str, plain_nils, plain_slp, plain_sle, plain_nil, plain_pto, plain_ptp, plain_slo, nb_agg, nb_int, nb_bool, nb_str, nb_slp, nb_nils, nb_sle, nb_slo, cells_agg, cells_int, cells_bool, cells_str, List.length_cons, List.length_nil, List.length_append, List.take_succ_cons, List.take_zero, List.drop_succ_cons, List.drop_zero, List.cons_append, List.nil_append, List.append_nil, List.drop_nil, List.take_nil, List.getElem?_cons_zero, List.getElem?_cons_succ, List.set_cons_zero, List.set_cons_succ, Nat.reduceAdd, Nat.reduceMul, Nat.reduceSub, Nat.reduceLeDiff, Nat.reduceEqDiff, Nat.reduceLT, Nat.zero_add, Nat.add_zero, decide_true, decide_false, Bool.and_true, Bool.true_and, Bool.and_false, Bool.false_and, Bool.not_true, Bool.not_false, Nat.le_refl, reduceIte, kKin_0_eq, kKin_1_eq, kKin_2_eq, kKin_3_eq, kKin_4_eq, kKin_5_eq, kKin_6_eq, kKin_7_eq, kKin_8_eq, kKin_9_eq, kKin_10_eq, kKin_11_eq, kKin_12_eq, kKin_13_eq, kKin_14_eq, kKin_15_eq, kKin_16_eq, kKin_17_eq, kKin_18_eq, kKin_19_eq, kKin_20_eq, kKin_21_eq, kKin_22_eq, kKin_23_eq, kKin_24_eq, kKin_25_eq, kKin_26_eq, kKin_27_eq, kKin_28_eq, kKin_29_eq, kKin_ret, kKin_nrm, decide_eq_false hi]
  | succ m ih =>
    intro i n h M v5 v6 v12 v19 e hn hM hh
    obtain ⟨n, rfl⟩ : ∃ k, n = k + 2 := ⟨n - 2, by omega⟩
    have hi' : i < ks.length := by omega
    have hi : (i : Int) < (ks.length : Int) := by omega
    obtain ⟨k, hk⟩ : ∃ k, ks[i]? = some k := ⟨_, List.getElem?_eq_getElem hi'⟩
    obtain rfl : sl = .slp cs ks.length := by rcases hsl with h | h <;> first | exact h | omega
    obtain ⟨c1, c2, c3, c4⟩ := S.at hk
    obtain ⟨_, b1, b2⟩ := S.get i k hk
    obtain ⟨E, hE⟩ : ∃ E, (cs.drop (i * 265)).take 265 = E := ⟨_, rfl⟩
    rw [hE] at c2 c3 c4
    have hst : ∀ (y : Nat) (h : AH) (κ : Ka), storeG 265 (.pto h.length 0) (.agg E) (h ++ [some (.cells kKin_Z36 y)]) κ = κ (.tup []) (h ++ [some (.cells E y)]) := fun y h κ => storeG_new (by kernel_rfl) c2 c3
    have hname := name_call mx n k b1 b2
    have ht : ks.take (i + 1) = ks.take i ++ [k] := by rw [List.take_add_one, hk]; rfl
    have hM2 := hM.snoc (k := k)
    rw [← ht] at hM2
    have w1 : wrapA 9223372036854775807 ((i : Int) + 1) = ((i + 1 : Nat) : Int) := by rw [wrapA_i64 (by omega) (by omega)]; push_cast; rfl
    have hlt := hget_of_lt hh
    by_cases hn : nameOf k = []
    · have hmore : more M k = M := if_pos hn
      rw [hmore] at hM2
      have hne : ¬ (nameOf k ≠ []) := fun c => c hn
      obtain ⟨M', u5, u6, u12, u19, h', e1, e2, e3⟩ := ih (i + 1) (n + 1) (h ++ [some (Blk.cells E (36 + 1))]) M (.pto h.length 0) (.str (nameOf k)) (.bool true) (.bool false) (by omega) (by omega) hM2 (by rw [hget_old hlt]; exact hh)
      refine ⟨M', u5, u6, u12, u19, h', ?_, e2, e3⟩
      rw [rl_lp]
      simp only [guardC_b, guardC_u, beqB_tt, beqB_tf, beqB_ft, beqB_ff, min_eq, max_eq, vhO_kVH, ckX_same, bldS_int2, lt_agg, lt_tup, lt_int, lt_bool, lt_str, lt_nils, lt_sle, lt_nil, lt_slp, lt_ptp, kNrm_st, obindS, obindN, kThen_nrm, kThen_ret, kThen_exit, kOut_nrm, kOut_ret, kOut_exit, kIf_b, bqT, bqF, moveA_eq, pickA_eq, boxA_eq, newA_eq, cmp_eq, arith_eq, remA_eq, quoA_eq, notA_eq, negA_eq, cvI_eq, moveP_o, moveP_p, blkC_cells, load1_o, load1_p, loadG_o, loadG_p, store1_o, storeG_o, lenS_nils, lenS_sle, lenS_p, lenS_o, lenT_eq, idxS_p, idxS_o, idxT_eq, idxA_o, idxV1_eq, fld1_eq, fldG_eq, extA_eq, nilCk_o, nilCk_p, strAdd_eq, strCmp_eq, withX_some, withX_none, iaddE, isubE, imulE, iltE, igtE, ileE, igeE, ineE, ibeqE, hget_top, hget_zero, hget_succ, set_top, plains_nil, plains_cons, plain_int, plain_bool, plain_str, plain_nils, plain_slp, plain_sle, plain_nil, plain_pto, plain_ptp, plain_slo, nb_agg, nb_int, nb_bool, nb_str, nb_slp, nb_nils, nb_sle, nb_slo, cells_agg, cells_int, cells_bool, cells_str, List.length_cons, List.length_nil, List.length_append, List.take_succ_cons, List.take_zero, List.drop_succ_cons, List.drop_zero, List.cons_append, List.nil_append, List.append_nil, List.drop_nil, List.take_nil, List.getElem?_cons_zero, List.getElem?_cons_succ, List.set_cons_zero, List.set_cons_succ, Nat.reduceAdd, Nat.reduceMul, Nat.reduceSub, Nat.reduceLeDiff, Nat.reduceEqDiff, Nat.reduceLT, Nat.zero_add, Nat.add_zero, decide_true, decide_false, Bool.and_true, Bool.true_and, Bool.and_false, Bool.false_and, Bool.not_true, Bool.not_false, Nat.le_refl, reduceIte, kKin_0_eq, kKin_1_eq, kKin_2_eq, kKin_3_eq, kKin_4_eq, kKin_5_eq, kKin_6_eq, kKin_7_eq, kKin_8_eq, kKin_9_eq, kKin_10_eq, kKin_11_eq, kKin_12_eq, kKin_13_eq, kKin_14_eq, kKin_15_eq, kKin_16_eq, kKin_17_eq, kKin_18_eq, kKin_19_eq, kKin_20_eq, kKin_21_eq, kKin_22_eq, kKin_23_eq, kKin_24_eq, kKin_25_eq, kKin_26_eq, kKin_27_eq, kKin_28_eq, kKin_29_eq, kKin_ret, kKin_nrm, -storeG_o, decide_eq_true hi, decide_eq_true hi', decide_eq_true c1, hE, hst, c4, hname, neS_nil, decide_eq_false hne, w1]
      exact e1
    · have hmore : more M k = put (nameOf k) (cnt (nameOf k) M + 1) M := if_neg hn
      rw [hmore] at hM2
      have hb := cnt_bound hM.good (nameOf k)
      have htot : tot M ≤ 500 := by
        rw [hM.tot]
        have : named (ks.take i) ≤ (ks.take i).length := List.length_filter_le _ _
        have : (ks.take i).length ≤ ks.length := by simp; omega
        omega
      have w2 : wrapA 9223372036854775807 (cnt (nameOf k) M + 1) = cnt (nameOf k) M + 1 := wrapA_i64 (by omega) (by omega)
      have hg : hget (h ++ [some (Blk.cells E (36 + 1))]) 1 = some (.map (mkL M) (mvL M)) := by rw [hget_old hlt]; exact hh
      have hl1 := look_of (m := .mpo 1) (M := M) (h := h ++ [some (Blk.cells E (36 + 1))]) (by show (match hget _ 1 with | some (.map ks vs) => some (ks, vs) | _ => none) = _; rw [hg]) (nameOf k)
      have hp1 := mput_of hg (nameOf k) (cnt (nameOf k) M + 1)
      obtain ⟨M', u5, u6, u12, u19, h', e1, e2, e3⟩ := ih (i + 1) (n + 1) ((h ++ [some (Blk.cells E (36 + 1))]).set 1 (some (.map (mkL (put (nameOf k) (cnt (nameOf k) M + 1) M)) (mvL (put (nameOf k) (cnt (nameOf k) M + 1) M))))) _ (.pto h.length 0) (.str (nameOf k)) (.bool true) (.bool true) (by omega) (by omega) hM2 (by rw [hget_set_same (by simp; omega)])
      refine ⟨M', u5, u6, u12, u19, h', ?_, e2, e3⟩
      rw [rl_lp]
      simp only [guardC_b, guardC_u, beqB_tt, beqB_tf, beqB_ft, beqB_ff, min_eq, max_eq, vhO_kVH, ckX_same, bldS_int2, lt_agg, lt_tup, lt_int, lt_bool, lt_str, lt_nils, lt_sle, lt_nil, lt_slp, lt_ptp, kNrm_st, obindS, obindN, kThen_nrm, kThen_ret, kThen_exit, kOut_nrm, kOut_ret, kOut_exit, kIf_b, bqT, bqF, moveA_eq, pickA_eq, boxA_eq, newA_eq, cmp_eq, arith_eq, remA_eq, quoA_eq, notA_eq, negA_eq, cvI_eq, moveP_o, moveP_p, blkC_cells, load1_o, load1_p, loadG_o, loadG_p, store1_o, storeG_o, lenS_nils, lenS_sle, lenS_p, lenS_o, lenT_eq, idxS_p, idxS_o, idxT_eq, idxA_o, idxV1_eq, fld1_eq, fldG_eq, extA_eq, nilCk_o, nilCk_p, strAdd_eq, strCmp_eq, withX_some, withX_none, iaddE, isubE, imulE, iltE, igtE, ileE, igeE, ineE, ibeqE, hget_top, hget_zero, hget_succ, set_top, plains_nil, plains_cons, plain_int, plain_bool, plain_str, plain_nils, plain_slp, plain_sle, plain_nil, plain_pto, plain_ptp, plain_slo, nb_agg, nb_int, nb_bool, nb_str, nb_slp, nb_nils, nb_sle, nb_slo, cells_agg, cells_int, cells_bool, cells_str, List.length_cons, List.length_nil, List.length_append, List.take_succ_cons, List.take_zero, List.drop_succ_cons, List.drop_zero, List.cons_append, List.nil_append, List.append_nil, List.drop_nil, List.take_nil, List.getElem?_cons_zero, List.getElem?_cons_succ, List.set_cons_zero, List.set_cons_succ, Nat.reduceAdd, Nat.reduceMul, Nat.reduceSub, Nat.reduceLeDiff, Nat.reduceEqDiff, Nat.reduceLT, Nat.zero_add, Nat.add_zero, decide_true, decide_false, Bool.and_true, Bool.true_and, Bool.and_false, Bool.false_and, Bool.not_true, Bool.not_false, Nat.le_refl, reduceIte, kKin_0_eq, kKin_1_eq, kKin_2_eq, kKin_3_eq, kKin_4_eq, kKin_5_eq, kKin_6_eq, kKin_7_eq, kKin_8_eq, kKin_9_eq, kKin_10_eq, kKin_11_eq, kKin_12_eq, kKin_13_eq, kKin_14_eq, kKin_15_eq, kKin_16_eq, kKin_17_eq, kKin_18_eq, kKin_19_eq, kKin_20_eq, kKin_21_eq, kKin_22_eq, kKin_23_eq, kKin_24_eq, kKin_25_eq, kKin_26_eq, kKin_27_eq, kKin_28_eq, kKin_29_eq, kKin_ret, kKin_nrm, -storeG_o, decide_eq_true hi, decide_eq_true hi', decide_eq_true c1, hE, hst, c4, hname, neS_nil, decide_eq_true (show nameOf k ≠ [] from hn), w1, w2, hl1, hp1]
      exact e1
theorem len_of {sl : AV} {cs : List AV} {len : Nat} (h : sl = .slp cs len ∨ (len = 0 ∧ (sl = .nils ∨ sl = .sle))) (H : AH) (κ : Ka) : lenS sl H κ = κ (.int 9223372036854775807 (len : Int)) H := by
  rcases h with rfl | ⟨rfl, rfl | rfl⟩ <;> rfl
theorem kin_run (mx : Int) {cs : List AV} {ks : List Int} (S : Steps265 cs ks) (hl : ks.length ≤ 500) (sl : AV) (hsl : sl = .slp cs ks.length ∨ (ks.length = 0 ∧ (sl = .nils ∨ sl = .sle))) (s1 s2 s3 : AV) (n : Nat) (hn : 502 ≤ n) :
    ∃ M h', (rl (CL mx) (n + 1)).run 7 [.agg [sl, s1, s2, s3]] [] = some (.mpo 1, h') ∧ Met M ks ∧ hget h' 1 = some (.map (mkL M) (mvL M)) := by
  rw [rl_run, kKin_run _ _ _ _ _ (by kernel_rfl) (kKin_fk mx)]
  have hL := len_of hsl
  obtain ⟨M', u5, u6, u12, u19, h', e1, e2, e3⟩ := kin_loop mx S hl sl (hsl.imp id (·.1)) (.agg [sl, s1, s2, s3]) (.pto 0 0) .nilm ks.length 0 n [some (Blk.cells [sl, s1, s2, s3] (30 + 1)), some (.map [] [])] [] .bot .bot .bot .bot (by omega) (by omega) Met.nil rfl
  refine ⟨M', h', ?_, e2, e3⟩
  rw [show ((0 : Nat) : Int) = 0 from rfl] at e1
  simp only [guardC_b, guardC_u, beqB_tt, beqB_tf, beqB_ft, beqB_ff, min_eq, max_eq, vhO_kVH, ckX_same, bldS_int2, lt_agg, lt_tup, lt_int, lt_bool, lt_str, lt_nils, lt_sle, lt_nil, lt_slp, lt_ptp, kNrm_st, obindS, obindN, kThen_nrm, kThen_ret, kThen_exit, kOut_nrm, kOut_ret, kOut_exit, kIf_b, bqT, bqF, moveA_eq, pickA_eq, boxA_eq, newA_eq, cmp_eq, arith_eq, remA_eq, quoA_eq, notA_eq, negA_eq, cvI_eq, moveP_o, moveP_p, blkC_cells, load1_o, load1_p, loadG_o, loadG_p, store1_o, storeG_o, lenS_nils, lenS_sle, lenS_p, lenS_o, lenT_eq, idxS_p, idxS_o, idxT_eq, idxA_o, idxV1_eq, fld1_eq, fldG_eq, extA_eq, nilCk_o, nilCk_p, strAdd_eq, strCmp_eq, withX_some, withX_none, iaddE, isubE, imulE, iltE, igtE, ileE, igeE, ineE, ibeqE, hget_top, hget_zero, hget_succ, set_top, plains_nil, plains_cons, plain_int, plain_bool, plain_str, plain_nils, plain_slp, plain_sle, plain_nil, plain_pto, plain_ptp, plain_slo, nb_agg, nb_int, nb_bool, nb_str, nb_slp, nb_nils, nb_sle, nb_slo, cells_agg, cells_int, cells_bool, cells_str, List.length_cons, List.length_nil, List.length_append, List.take_succ_cons, List.take_zero, List.drop_succ_cons, List.drop_zero, List.cons_append, List.nil_append, List.append_nil, List.drop_nil, List.take_nil, List.getElem?_cons_zero, List.getElem?_cons_succ, List.set_cons_zero, List.set_cons_succ, Nat.reduceAdd, Nat.reduceMul, Nat.reduceSub, Nat.reduceLeDiff, Nat.reduceEqDiff, Nat.reduceLT, Nat.zero_add, Nat.add_zero, decide_true, decide_false, Bool.and_true, Bool.true_and, Bool.and_false, Bool.false_and, Bool.not_true, Bool.not_false, Nat.le_refl, reduceIte, kKin_0_eq, kKin_1_eq, kKin_2_eq, kKin_3_eq, kKin_4_eq, kKin_5_eq, kKin_6_eq, kKin_7_eq, kKin_8_eq, kKin_9_eq, kKin_10_eq, kKin_11_eq, kKin_12_eq, kKin_13_eq, kKin_14_eq, kKin_15_eq, kKin_16_eq, kKin_17_eq, kKin_18_eq, kKin_19_eq, kKin_20_eq, kKin_21_eq, kKin_22_eq, kKin_23_eq, kKin_24_eq, kKin_25_eq, kKin_26_eq, kKin_27_eq, kKin_28_eq, kKin_29_eq, kKin_ret, kKin_nrm, -kKin_20_eq, flen_eq, fapp_eq, hL, e1]
theorem kinds_call (mx : Int) {cs : List AV} {ks : List Int} (S : Steps265 cs ks) (hl : ks.length ≤ 500) (sl : AV) (hsl : sl = .slp cs ks.length ∨ (ks.length = 0 ∧ (sl = .nils ∨ sl = .sle))) (s1 s2 s3 : AV) (hp : ltL 0 [sl, s1, s2, s3] = true) (n : Nat) (hn : 502 ≤ n) :
    ∃ M, Met M ks ∧ ∀ h, callA (CL mx) (rl (CL mx) (n + 1)).run 7 [.agg [sl, s1, s2, s3]] h = some (.mpp (mkL M) (mvL M), h) := by
  obtain ⟨M, h', e1, e2, e3⟩ := kin_run mx S hl sl hsl s1 s2 s3 n hn
  refine ⟨M, e2, fun h => callA_fz (by kernel_rfl) ?_ (by kernel_rfl) e1 (by rfl) (by kernel_rfl) (fz_map e3)⟩
  show and (ltL 0 [sl, s1, s2, s3]) true = true
  rw [hp]; rfl
/-- The law's state in its first loop: so much was counted. -/
noncomputable def sumS (v0 m : AV) (H : AH) (a : Int) : St := ⟨kLaw_T v0 (.pto 0 0) (.bool false) m (.int 9223372036854775807 (IntKind.i64.wrap a)) .bot .bot .bot (.bool false) (.bool false) (.pto 1 0) .bot .bot .bot .bot .bot .bot .bot .bot, H⟩
def valI : AV → Int
  | .int _ n => n
  | _ => 0
theorem sum_round (mx : Int) (R : Run) (lp : Lp) (v0 m X : AV) (cells : List AV) (y : Nat) (hv0 : v0.lt 2 = true) (hm : m.lt 2 = true) (hc : ltL 2 cells = true) (s : List Nat) (v a : Int) (hs : s ≠ []) (hv : 1 ≤ v) :
    bodyS true (CL mx) R (kx (CL mx) R lp (kLaw_25 (CL mx))) (kLaw_26_ent (CL mx)) [(6, 0), (5, 1)] 1 18 (sumS v0 m [some (.cells cells y), none] 0).t 2 (.str s) (.int 9223372036854775807 v) (sumS v0 m [some (.cells cells y), none] a) = some (sumS v0 m [some (.cells cells y), none] (a + v)) := by
  have hv' : ¬ (v < 1) := by omega
  have w1 : wrapA 9223372036854775807 (IntKind.i64.wrap a + v) = IntKind.i64.wrap (a + v) := by rw [wrapA_i64', wrap_i64_add]
  rw [bodyS_of (t1 := kLaw_T v0 (.pto 0 0) (.bool false) m (.int 9223372036854775807 (IntKind.i64.wrap a)) (.str s) (.int 9223372036854775807 v) .bot (.bool false) (.bool false) (.pto 1 0) .bot .bot .bot .bot .bot .bot .bot .bot) (h1 := [some (.cells cells y), none])
    (s1 := ⟨kLaw_T v0 (.pto 0 0) (.bool false) m (.int 9223372036854775807 (IntKind.i64.wrap (a + v))) (.str s) (.int 9223372036854775807 v) .bot (.bool false) (.bool false) (.pto 1 0) .bot (.bool false) .bot .bot .bot .bot .bot .bot, [some (.cells cells y), none]⟩) ?_ ?_]
  · refine canonS_of ?_ (by rfl) ?_ (by rfl) ?_
    · unfold sumS
      simp only [kLaw_tmap, kLaw_tget0, kLaw_tget1, kLaw_tget2, kLaw_tget3, kLaw_tget4, kLaw_tget5, kLaw_tget6, kLaw_tget8, kLaw_tget10, kLaw_tget14, kLaw_tget18, kLaw_tget20, kLaw_tget29, kLaw_tget34, kLaw_tget35, kLaw_tget36, kLaw_tget37, kLaw_tget43, kLaw_tget51, same_refl, same_bot_int, same_bot_str, same_bot_bool, Bool.true_or, Bool.false_or, Bool.or_true, Bool.not_true, Bool.not_false, Bool.and_true, Bool.and_false, bqT, bqF]
    · rw [kLaw_tall, hv0, hm]; rfl
    · show and (ltL 2 cells) true = true
      rw [hc]; rfl
  · unfold sumS
    simp only [kLaw_26_en, guardC_b, guardC_u, beqB_tt, beqB_tf, beqB_ft, beqB_ff, min_eq, max_eq, vhO_kVH, ckX_same, bldS_int2, lt_agg, lt_tup, lt_int, lt_bool, lt_str, lt_nils, lt_sle, lt_nil, lt_slp, lt_ptp, kNrm_st, obindS, obindN, kThen_nrm, kThen_ret, kThen_exit, kOut_nrm, kOut_ret, kOut_exit, kIf_b, bqT, bqF, moveA_eq, pickA_eq, boxA_eq, newA_eq, cmp_eq, arith_eq, remA_eq, quoA_eq, notA_eq, negA_eq, cvI_eq, moveP_o, moveP_p, blkC_cells, load1_o, load1_p, loadG_o, loadG_p, store1_o, storeG_o, lenS_nils, lenS_sle, lenS_p, lenS_o, lenT_eq, idxS_p, idxS_o, idxT_eq, idxA_o, idxV1_eq, fld1_eq, fldG_eq, extA_eq, nilCk_o, nilCk_p, strAdd_eq, strCmp_eq, withX_some, withX_none, iaddE, isubE, imulE, iltE, igtE, ileE, igeE, ineE, ibeqE, hget_top, hget_zero, hget_succ, set_top, plains_nil, plains_cons, plain_int, plain_bool, plain_str, plain_nils, plain_slp, plain_sle, plain_nil, plain_pto, plain_ptp, plain_slo, nb_agg, nb_int, nb_bool, nb_str, nb_slp, nb_nils, nb_sle, nb_slo, cells_agg, cells_int, cells_bool, cells_str, List.length_cons, List.length_nil, List.length_append, List.take_succ_cons, List.take_zero, List.drop_succ_cons, List.drop_zero, List.cons_append, List.nil_append, List.append_nil, List.drop_nil, List.take_nil, List.getElem?_cons_zero, List.getElem?_cons_succ, List.set_cons_zero, List.set_cons_succ, Nat.reduceAdd, Nat.reduceMul, Nat.reduceSub, Nat.reduceLeDiff, Nat.reduceEqDiff, Nat.reduceLT, Nat.zero_add, Nat.add_zero, decide_true, decide_false, Bool.and_true, Bool.true_and, Bool.and_false, Bool.false_and, Bool.not_true, Bool.not_false, Nat.le_refl, reduceIte]
  · simp only [guardC_b, guardC_u, beqB_tt, beqB_tf, beqB_ft, beqB_ff, min_eq, max_eq, vhO_kVH, ckX_same, bldS_int2, lt_agg, lt_tup, lt_int, lt_bool, lt_str, lt_nils, lt_sle, lt_nil, lt_slp, lt_ptp, kNrm_st, obindS, obindN, kThen_nrm, kThen_ret, kThen_exit, kOut_nrm, kOut_ret, kOut_exit, kIf_b, bqT, bqF, moveA_eq, pickA_eq, boxA_eq, newA_eq, cmp_eq, arith_eq, remA_eq, quoA_eq, notA_eq, negA_eq, cvI_eq, moveP_o, moveP_p, blkC_cells, load1_o, load1_p, loadG_o, loadG_p, store1_o, storeG_o, lenS_nils, lenS_sle, lenS_p, lenS_o, lenT_eq, idxS_p, idxS_o, idxT_eq, idxA_o, idxV1_eq, fld1_eq, fldG_eq, extA_eq, nilCk_o, nilCk_p, strAdd_eq, strCmp_eq, withX_some, withX_none, iaddE, isubE, imulE, iltE, igtE, ileE, igeE, ineE, ibeqE, hget_top, hget_zero, hget_succ, set_top, plains_nil, plains_cons, plain_int, plain_bool, plain_str, plain_nils, plain_slp, plain_sle, plain_nil, plain_pto, plain_ptp, plain_slo, nb_agg, nb_int, nb_bool, nb_str, nb_slp, nb_nils, nb_sle, nb_slo, cells_agg, cells_int, cells_bool, cells_str, List.length_cons, List.length_nil, List.length_append, List.take_succ_cons, List.take_zero, List.drop_succ_cons, List.drop_zero, List.cons_append, List.nil_append, List.append_nil, List.drop_nil, List.take_nil, List.getElem?_cons_zero, List.getElem?_cons_succ, List.set_cons_zero, List.set_cons_succ, Nat.reduceAdd, Nat.reduceMul, Nat.reduceSub, Nat.reduceLeDiff, Nat.reduceEqDiff, Nat.reduceLT, Nat.zero_add, Nat.add_zero, decide_true, decide_false, Bool.and_true, Bool.true_and, Bool.and_false, Bool.false_and, Bool.not_true, Bool.not_false, Nat.le_refl, reduceIte, kLaw_0_eq, kLaw_1_eq, kLaw_2_eq, kLaw_3_eq, kLaw_4_eq, kLaw_5_eq, kLaw_6_eq, kLaw_7_eq, kLaw_8_eq, kLaw_9_eq, kLaw_10_eq, kLaw_11_eq, kLaw_12_eq, kLaw_13_eq, kLaw_14_eq, kLaw_15_eq, kLaw_16_eq, kLaw_17_eq, kLaw_18_eq, kLaw_19_eq, kLaw_20_eq, kLaw_21_eq, kLaw_22_eq, kLaw_23_eq, kLaw_24_eq, kLaw_25_eq, kLaw_26_eq, kLaw_27_eq, kLaw_28_eq, kLaw_29_eq, kLaw_30_eq, kLaw_31_eq, kLaw_32_eq, kLaw_33_eq, kLaw_34_eq, kLaw_35_eq, kLaw_36_eq, kLaw_37_eq, kLaw_38_eq, kLaw_39_eq, kLaw_40_eq, kLaw_41_eq, kLaw_42_eq, kLaw_43_eq, kLaw_44_eq, kLaw_45_eq, kLaw_46_eq, kLaw_47_eq, kLaw_48_eq, kLaw_49_eq, kLaw_50_eq, kLaw_51_eq, kLaw_52_eq, kLaw_53_eq, kLaw_54_eq, kLaw_55_eq, kLaw_56_eq, kLaw_57_eq, kLaw_58_eq, kLaw_59_eq, kLaw_60_eq, kLaw_61_eq, kLaw_62_eq, kLaw_ret, kLaw_nrm, decide_eq_false hv', eqS_nil, decide_eq_false hs, w1]
/-- How many kinds have none. -/
noncomputable def bare (ks : List Int) : Nat := (ks.filter fun k => decide (nameOf k = [])).length
theorem named_bare : ∀ ks : List Int, named ks + bare ks = ks.length
  | [] => rfl
  | k :: ks => by
    have ih := named_bare ks
    unfold named bare at *
    by_cases h : nameOf k = [] <;> simp [h] at ih ⊢ <;> omega
theorem bare_snoc (ks : List Int) (k : Int) : bare (ks ++ [k]) = bare ks + (if nameOf k = [] then 1 else 0) := by
  unfold bare
  by_cases h : nameOf k = [] <;> simp [h]
theorem law_loop (mx : Int) {cs : List AV} {ks : List Int} (S : Steps265 cs ks) (hl : ks.length ≤ 500) (sl : AV) (hsl : sl = .slp cs ks.length ∨ ks.length = 0) {M : Cnt} (hM : Met M ks) (B : Option Blk) (v0 v1 v2 v5 v6 v10 v14 v18 v20 v29 : AV) : ∀ (m i n : Nat) (h : AH) (v8 v37 v43 v51 : AV), i + m = ks.length → m + 2 ≤ n → 0 < h.length → hget h 0 = B →
    ∃ u8 u37 u43 u51 h', (rl (CL mx) n).lp (kLaw_49 (CL mx)) ⟨kLaw_T v0 v1 v2 (.mpp (mkL M) (mvL M)) (.int 9223372036854775807 ((named ks + bare (ks.take i) : Nat) : Int)) v5 v6 v8 v10 v14 v18 v20 v29 sl (.int 9223372036854775807 (ks.length : Int)) (.int 9223372036854775807 (i : Int)) v37 v43 v51, h⟩ =
      some (.exit 2, ⟨kLaw_T v0 v1 v2 (.mpp (mkL M) (mvL M)) (.int 9223372036854775807 (ks.length : Int)) v5 v6 u8 v10 v14 v18 v20 v29 sl (.int 9223372036854775807 (ks.length : Int)) (.int 9223372036854775807 (ks.length : Int)) u37 u43 u51, h'⟩) ∧ hget h' 0 = B := by
  intro m
  induction m with
  | zero =>
    intro i n h v8 v37 v43 v51 e hn h0 hB
    obtain ⟨n, rfl⟩ : ∃ k, n = k + 1 := ⟨n - 1, by omega⟩
    obtain rfl : i = ks.length := by omega
    have hi : ¬ ((ks.length : Int) < (ks.length : Int)) := by omega
    rw [List.take_length, named_bare]
    refine ⟨v8, .bool false, v43, v51, h, ?_, hB⟩
    rw [rl_lp]
    simp only [guardC_b, guardC_u, beqB_tt, beqB_tf, beqB_ft, beqB_ff, min_eq, max_eq, vhO_kVH, ckX_same, bldS_int2, lt_agg, lt_tup, lt_int, lt_bool, lt_str, lt_nils, lt_sle, lt_nil, lt_slp, lt_ptp, kNrm_st, obindS, obindN, kThen_nrm, kThen_ret, kThen_exit, kOut_nrm, kOut_ret, kOut_exit, kIf_b, bqT, bqF, moveA_eq, pickA_eq, boxA_eq, newA_eq, cmp_eq, arith_eq, remA_eq, quoA_eq, notA_eq, negA_eq, cvI_eq, moveP_o, moveP_p, blkC_cells, load1_o, load1_p, loadG_o, loadG_p, store1_o, storeG_o, lenS_nils, lenS_sle, lenS_p, lenS_o, lenT_eq, idxS_p, idxS_o, idxT_eq, idxA_o, idxV1_eq, fld1_eq, fldG_eq, extA_eq, nilCk_o, nilCk_p, strAdd_eq, strCmp_eq, withX_some, withX_none, iaddE, isubE, imulE, iltE, igtE, ileE, igeE, ineE, ibeqE, hget_top, hget_zero, hget_succ, set_top, plains_nil, plains_cons, plain_int, plain_bool, plain_str, plain_nils, plain_slp, plain_sle, plain_nil, plain_pto, plain_ptp, plain_slo, nb_agg, nb_int, nb_bool, nb_str, nb_slp, nb_nils, nb_sle, nb_slo, cells_agg, cells_int, cells_bool, cells_str, List.length_cons, List.length_nil, List.length_append, List.take_succ_cons, List.take_zero, List.drop_succ_cons, List.drop_zero, List.cons_append, List.nil_append, List.append_nil, List.drop_nil, List.take_nil, List.getElem?_cons_zero, List.getElem?_cons_succ, List.set_cons_zero, List.set_cons_succ, Nat.reduceAdd, Nat.reduceMul, Nat.reduceSub, Nat.reduceLeDiff, Nat.reduceEqDiff, Nat.reduceLT, Nat.zero_add, Nat.add_zero, decide_true, decide_false, Bool.and_true, Bool.true_and, Bool.and_false, Bool.false_and, Bool.not_true, Bool.not_false, Nat.le_refl, reduceIte, kLaw_0_eq, kLaw_1_eq, kLaw_2_eq, kLaw_3_eq, kLaw_4_eq, kLaw_5_eq, kLaw_6_eq, kLaw_7_eq, kLaw_8_eq, kLaw_9_eq, kLaw_10_eq, kLaw_11_eq, kLaw_12_eq, kLaw_13_eq, kLaw_14_eq, kLaw_15_eq, kLaw_16_eq, kLaw_17_eq, kLaw_18_eq, kLaw_19_eq, kLaw_20_eq, kLaw_21_eq, kLaw_22_eq, kLaw_23_eq, kLaw_24_eq, kLaw_25_eq, kLaw_26_eq, kLaw_27_eq, kLaw_28_eq, kLaw_29_eq, kLaw_30_eq, kLaw_31_eq, kLaw_32_eq, kLaw_33_eq, kLaw_34_eq, kLaw_35_eq, kLaw_36_eq, kLaw_37_eq, kLaw_38_eq, kLaw_39_eq, kLaw_40_eq, kLaw_41_eq, kLaw_42_eq, kLaw_43_eq, kLaw_44_eq, kLaw_45_eq, kLaw_46_eq, kLaw_47_eq, kLaw_48_eq, kLaw_49_eq, kLaw_50_eq, kLaw_51_eq, kLaw_52_eq, kLaw_53_eq, kLaw_54_eq, kLaw_55_eq, kLaw_56_eq, kLaw_57_eq, kLaw_58_eq, kLaw_59_eq, kLaw_60_eq, kLaw_61_eq, kLaw_62_eq, kLaw_ret, kLaw_nrm, decide_eq_false hi]
  | succ m ih =>
    intro i n h v8 v37 v43 v51 e hn h0 hB
    obtain ⟨n, rfl⟩ : ∃ k, n = k + 2 := ⟨n - 2, by omega⟩
    have hi' : i < ks.length := by omega
    have hi : (i : Int) < (ks.length : Int) := by omega
    obtain ⟨k, hk⟩ : ∃ k, ks[i]? = some k := ⟨_, List.getElem?_eq_getElem hi'⟩
    obtain rfl : sl = .slp cs ks.length := by rcases hsl with h | h <;> first | exact h | omega
    obtain ⟨c1, c2, c3, c4⟩ := S.at hk
    obtain ⟨_, b1, b2⟩ := S.get i k hk
    obtain ⟨E, hE⟩ : ∃ E, (cs.drop (i * 265)).take 265 = E := ⟨_, rfl⟩
    rw [hE] at c2 c3 c4
    have hst : ∀ (y : Nat) (h : AH) (κ : Ka), storeG 265 (.pto h.length 0) (.agg E) (h ++ [some (.cells kLaw_Z36 y)]) κ = κ (.tup []) (h ++ [some (.cells E y)]) := fun y h κ => storeG_new (by kernel_rfl) c2 c3
    have hname := name_call mx n k b1 b2
    have ht : ks.take (i + 1) = ks.take i ++ [k] := by rw [List.take_add_one, hk]; rfl
    have hbar := bare_snoc (ks.take i) k
    rw [← ht] at hbar
    have hnb := named_bare ks
    have hbl : bare (ks.take (i + 1)) ≤ bare ks := by
      unfold bare
      exact ((List.take_sublist (i + 1) ks).filter _).length_le
    have w1 : wrapA 9223372036854775807 ((i : Int) + 1) = ((i + 1 : Nat) : Int) := by rw [wrapA_i64 (by omega) (by omega)]; push_cast; rfl
    have hg : hget (h ++ [some (Blk.cells E (36 + 1))]) 0 = B := by rw [hget_old h0]; exact hB
    by_cases hn : nameOf k = []
    · rw [if_pos hn] at hbar
      have w2 : wrapA 9223372036854775807 (((named ks + bare (ks.take i) : Nat) : Int) + 1) = ((named ks + bare (ks.take (i + 1)) : Nat) : Int) := by rw [wrapA_i64 (by omega) (by omega)]; push_cast; omega
      obtain ⟨u8, u37, u43, u51, h', e1, e2⟩ := ih (i + 1) (n + 1) (h ++ [some (Blk.cells E (36 + 1))]) (.pto h.length 0) (.bool true) (.bool true) v51 (by omega) (by omega) (by simp) hg
      refine ⟨u8, u37, u43, u51, h', ?_, e2⟩
      rw [rl_lp]
      simp only [guardC_b, guardC_u, beqB_tt, beqB_tf, beqB_ft, beqB_ff, min_eq, max_eq, vhO_kVH, ckX_same, bldS_int2, lt_agg, lt_tup, lt_int, lt_bool, lt_str, lt_nils, lt_sle, lt_nil, lt_slp, lt_ptp, kNrm_st, obindS, obindN, kThen_nrm, kThen_ret, kThen_exit, kOut_nrm, kOut_ret, kOut_exit, kIf_b, bqT, bqF, moveA_eq, pickA_eq, boxA_eq, newA_eq, cmp_eq, arith_eq, remA_eq, quoA_eq, notA_eq, negA_eq, cvI_eq, moveP_o, moveP_p, blkC_cells, load1_o, load1_p, loadG_o, loadG_p, store1_o, storeG_o, lenS_nils, lenS_sle, lenS_p, lenS_o, lenT_eq, idxS_p, idxS_o, idxT_eq, idxA_o, idxV1_eq, fld1_eq, fldG_eq, extA_eq, nilCk_o, nilCk_p, strAdd_eq, strCmp_eq, withX_some, withX_none, iaddE, isubE, imulE, iltE, igtE, ileE, igeE, ineE, ibeqE, hget_top, hget_zero, hget_succ, set_top, plains_nil, plains_cons, plain_int, plain_bool, plain_str, plain_nils, plain_slp, plain_sle, plain_nil, plain_pto, plain_ptp, plain_slo, nb_agg, nb_int, nb_bool, nb_str, nb_slp, nb_nils, nb_sle, nb_slo, cells_agg, cells_int, cells_bool, cells_str, List.length_cons, List.length_nil, List.length_append, List.take_succ_cons, List.take_zero, List.drop_succ_cons, List.drop_zero, List.cons_append, List.nil_append, List.append_nil, List.drop_nil, List.take_nil, List.getElem?_cons_zero, List.getElem?_cons_succ, List.set_cons_zero, List.set_cons_succ, Nat.reduceAdd, Nat.reduceMul, Nat.reduceSub, Nat.reduceLeDiff, Nat.reduceEqDiff, Nat.reduceLT, Nat.zero_add, Nat.add_zero, decide_true, decide_false, Bool.and_true, Bool.true_and, Bool.and_false, Bool.false_and, Bool.not_true, Bool.not_false, Nat.le_refl, reduceIte, kLaw_0_eq, kLaw_1_eq, kLaw_2_eq, kLaw_3_eq, kLaw_4_eq, kLaw_5_eq, kLaw_6_eq, kLaw_7_eq, kLaw_8_eq, kLaw_9_eq, kLaw_10_eq, kLaw_11_eq, kLaw_12_eq, kLaw_13_eq, kLaw_14_eq, kLaw_15_eq, kLaw_16_eq, kLaw_17_eq, kLaw_18_eq, kLaw_19_eq, kLaw_20_eq, kLaw_21_eq, kLaw_22_eq, kLaw_23_eq, kLaw_24_eq, kLaw_25_eq, kLaw_26_eq, kLaw_27_eq, kLaw_28_eq, kLaw_29_eq, kLaw_30_eq, kLaw_31_eq, kLaw_32_eq, kLaw_33_eq, kLaw_34_eq, kLaw_35_eq, kLaw_36_eq, kLaw_37_eq, kLaw_38_eq, kLaw_39_eq, kLaw_40_eq, kLaw_41_eq, kLaw_42_eq, kLaw_43_eq, kLaw_44_eq, kLaw_45_eq, kLaw_46_eq, kLaw_47_eq, kLaw_48_eq, kLaw_49_eq, kLaw_50_eq, kLaw_51_eq, kLaw_52_eq, kLaw_53_eq, kLaw_54_eq, kLaw_55_eq, kLaw_56_eq, kLaw_57_eq, kLaw_58_eq, kLaw_59_eq, kLaw_60_eq, kLaw_61_eq, kLaw_62_eq, kLaw_ret, kLaw_nrm, -storeG_o, decide_eq_true hi, decide_eq_true hi', decide_eq_true c1, hE, hst, c4, hname, eqS_nil, decide_eq_true hn, w1, w2]
      exact e1
    · rw [if_neg hn, Nat.add_zero] at hbar
      have hm := hM.met k (List.mem_of_getElem? hk) hn
      have hm' : ¬ (cnt (nameOf k) M < 1) := by omega
      obtain ⟨u8, u37, u43, u51, h', e1, e2⟩ := ih (i + 1) (n + 1) (h ++ [some (Blk.cells E (36 + 1))]) (.pto h.length 0) (.bool true) (.bool false) (.bool false) (by omega) (by omega) (by simp) hg
      refine ⟨u8, u37, u43, u51, h', ?_, e2⟩
      rw [hbar] at e1
      rw [rl_lp]
      have hlk := fun h => look_of (m := .mpp (mkL M) (mvL M)) (M := M) (h := h) (by rfl) (nameOf k)
      simp only [guardC_b, guardC_u, beqB_tt, beqB_tf, beqB_ft, beqB_ff, min_eq, max_eq, vhO_kVH, ckX_same, bldS_int2, lt_agg, lt_tup, lt_int, lt_bool, lt_str, lt_nils, lt_sle, lt_nil, lt_slp, lt_ptp, kNrm_st, obindS, obindN, kThen_nrm, kThen_ret, kThen_exit, kOut_nrm, kOut_ret, kOut_exit, kIf_b, bqT, bqF, moveA_eq, pickA_eq, boxA_eq, newA_eq, cmp_eq, arith_eq, remA_eq, quoA_eq, notA_eq, negA_eq, cvI_eq, moveP_o, moveP_p, blkC_cells, load1_o, load1_p, loadG_o, loadG_p, store1_o, storeG_o, lenS_nils, lenS_sle, lenS_p, lenS_o, lenT_eq, idxS_p, idxS_o, idxT_eq, idxA_o, idxV1_eq, fld1_eq, fldG_eq, extA_eq, nilCk_o, nilCk_p, strAdd_eq, strCmp_eq, withX_some, withX_none, iaddE, isubE, imulE, iltE, igtE, ileE, igeE, ineE, ibeqE, hget_top, hget_zero, hget_succ, set_top, plains_nil, plains_cons, plain_int, plain_bool, plain_str, plain_nils, plain_slp, plain_sle, plain_nil, plain_pto, plain_ptp, plain_slo, nb_agg, nb_int, nb_bool, nb_str, nb_slp, nb_nils, nb_sle, nb_slo, cells_agg, cells_int, cells_bool, cells_str, List.length_cons, List.length_nil, List.length_append, List.take_succ_cons, List.take_zero, List.drop_succ_cons, List.drop_zero, List.cons_append, List.nil_append, List.append_nil, List.drop_nil, List.take_nil, List.getElem?_cons_zero, List.getElem?_cons_succ, List.set_cons_zero, List.set_cons_succ, Nat.reduceAdd, Nat.reduceMul, Nat.reduceSub, Nat.reduceLeDiff, Nat.reduceEqDiff, Nat.reduceLT, Nat.zero_add, Nat.add_zero, decide_true, decide_false, Bool.and_true, Bool.true_and, Bool.and_false, Bool.false_and, Bool.not_true, Bool.not_false, Nat.le_refl, reduceIte, kLaw_0_eq, kLaw_1_eq, kLaw_2_eq, kLaw_3_eq, kLaw_4_eq, kLaw_5_eq, kLaw_6_eq, kLaw_7_eq, kLaw_8_eq, kLaw_9_eq, kLaw_10_eq, kLaw_11_eq, kLaw_12_eq, kLaw_13_eq, kLaw_14_eq, kLaw_15_eq, kLaw_16_eq, kLaw_17_eq, kLaw_18_eq, kLaw_19_eq, kLaw_20_eq, kLaw_21_eq, kLaw_22_eq, kLaw_23_eq, kLaw_24_eq, kLaw_25_eq, kLaw_26_eq, kLaw_27_eq, kLaw_28_eq, kLaw_29_eq, kLaw_30_eq, kLaw_31_eq, kLaw_32_eq, kLaw_33_eq, kLaw_34_eq, kLaw_35_eq, kLaw_36_eq, kLaw_37_eq, kLaw_38_eq, kLaw_39_eq, kLaw_40_eq, kLaw_41_eq, kLaw_42_eq, kLaw_43_eq, kLaw_44_eq, kLaw_45_eq, kLaw_46_eq, kLaw_47_eq, kLaw_48_eq, kLaw_49_eq, kLaw_50_eq, kLaw_51_eq, kLaw_52_eq, kLaw_53_eq, kLaw_54_eq, kLaw_55_eq, kLaw_56_eq, kLaw_57_eq, kLaw_58_eq, kLaw_59_eq, kLaw_60_eq, kLaw_61_eq, kLaw_62_eq, kLaw_ret, kLaw_nrm, -storeG_o, decide_eq_true hi, decide_eq_true hi', decide_eq_true c1, hE, hst, c4, hname, eqS_nil, decide_eq_false hn, hlk, decide_eq_false hm', w1]
      exact e1
theorem law_run (mx : Int) {cs : List AV} {ks : List Int} (S : Steps265 cs ks) (sl : AV) (hsl : sl = .slp cs ks.length ∨ (ks.length = 0 ∧ (sl = .nils ∨ sl = .sle))) (s1 s2 s3 : AV) (hp : ltL 0 [sl, s1, s2, s3] = true) :
    ∃ h', (rl (CL mx) 504).run 4 [.agg [sl, s1, s2, s3]] [] = some (.bool true, h') := by
  rw [rl_run, kLaw_run _ _ _ _ _ (by kernel_rfl) (kLaw_fk mx)]
  have hhead := fun h => callA_memo (C := CL mx) (run := (rl (CL mx) 503).run) (h := h) (f := 5) (args := []) (v := .bool true) (by kernel_rfl) (by kernel_rfl) (by kernel_rfl)
  have hL := len_of hsl
  by_cases h5 : (500 : Int) < (ks.length : Int)
  · apply Exists.intro
    simp only [guardC_b, guardC_u, beqB_tt, beqB_tf, beqB_ft, beqB_ff, min_eq, max_eq, vhO_kVH, ckX_same, bldS_int2, lt_agg, lt_tup, lt_int, lt_bool, lt_str, lt_nils, lt_sle, lt_nil, lt_slp, lt_ptp, kNrm_st, obindS, obindN, kThen_nrm, kThen_ret, kThen_exit, kOut_nrm, kOut_ret, kOut_exit, kIf_b, bqT, bqF, moveA_eq, pickA_eq, boxA_eq, newA_eq, cmp_eq, arith_eq, remA_eq, quoA_eq, notA_eq, negA_eq, cvI_eq, moveP_o, moveP_p, blkC_cells, load1_o, load1_p, loadG_o, loadG_p, store1_o, storeG_o, lenS_nils, lenS_sle, lenS_p, lenS_o, lenT_eq, idxS_p, idxS_o, idxT_eq, idxA_o, idxV1_eq, fld1_eq, fldG_eq, extA_eq, nilCk_o, nilCk_p, strAdd_eq, strCmp_eq, withX_some, withX_none, iaddE, isubE, imulE, iltE, igtE, ileE, igeE, ineE, ibeqE, hget_top, hget_zero, hget_succ, set_top, plains_nil, plains_cons, plain_int, plain_bool, plain_str, plain_nils, plain_slp, plain_sle, plain_nil, plain_pto, plain_ptp, plain_slo, nb_agg, nb_int, nb_bool, nb_str, nb_slp, nb_nils, nb_sle, nb_slo, cells_agg, cells_int, cells_bool, cells_str, List.length_cons, List.length_nil, List.length_append, List.take_succ_cons, List.take_zero, List.drop_succ_cons, List.drop_zero, List.cons_append, List.nil_append, List.append_nil, List.drop_nil, List.take_nil, List.getElem?_cons_zero, List.getElem?_cons_succ, List.set_cons_zero, List.set_cons_succ, Nat.reduceAdd, Nat.reduceMul, Nat.reduceSub, Nat.reduceLeDiff, Nat.reduceEqDiff, Nat.reduceLT, Nat.zero_add, Nat.add_zero, decide_true, decide_false, Bool.and_true, Bool.true_and, Bool.and_false, Bool.false_and, Bool.not_true, Bool.not_false, Nat.le_refl, reduceIte, kLaw_0_eq, kLaw_1_eq, kLaw_2_eq, kLaw_3_eq, kLaw_4_eq, kLaw_5_eq, kLaw_6_eq, kLaw_7_eq, kLaw_8_eq, kLaw_9_eq, kLaw_10_eq, kLaw_11_eq, kLaw_12_eq, kLaw_13_eq, kLaw_14_eq, kLaw_15_eq, kLaw_16_eq, kLaw_17_eq, kLaw_18_eq, kLaw_19_eq, kLaw_20_eq, kLaw_21_eq, kLaw_22_eq, kLaw_23_eq, kLaw_24_eq, kLaw_25_eq, kLaw_26_eq, kLaw_27_eq, kLaw_28_eq, kLaw_29_eq, kLaw_30_eq, kLaw_31_eq, kLaw_32_eq, kLaw_33_eq, kLaw_34_eq, kLaw_35_eq, kLaw_36_eq, kLaw_37_eq, kLaw_38_eq, kLaw_39_eq, kLaw_40_eq, kLaw_41_eq, kLaw_42_eq, kLaw_43_eq, kLaw_44_eq, kLaw_45_eq, kLaw_46_eq, kLaw_47_eq, kLaw_48_eq, kLaw_49_eq, kLaw_50_eq, kLaw_51_eq, kLaw_52_eq, kLaw_53_eq, kLaw_54_eq, kLaw_55_eq, kLaw_56_eq, kLaw_57_eq, kLaw_58_eq, kLaw_59_eq, kLaw_60_eq, kLaw_61_eq, kLaw_62_eq, kLaw_ret, kLaw_nrm, hhead, hL, decide_eq_true h5]
    rfl
  obtain ⟨M, hM, hk⟩ := kinds_call mx S (by omega) sl hsl s1 s2 s3 hp 502 (by omega)
  have htot : tot M = named ks := hM.tot
  have hnb := named_bare ks
  have hmm : (AV.mpp (mkL M) (mvL M)).lt 2 = true := rfl
  have hv0 : (AV.agg [sl, s1, s2, s3]).lt 2 = true := ltL_mono _ hp
  have hes : ∀ e ∈ M.map (fun e => ((AV.str e.1, AV.int 9223372036854775807 e.2) : AV × AV)), ∀ a, bodyS true (CL mx) (rl (CL mx) 503).run (kx (CL mx) (rl (CL mx) 503).run (rl (CL mx) 503).lp (kLaw_25 (CL mx))) (kLaw_26_ent (CL mx)) [(6, 0), (5, 1)] 1 18 (sumS (.agg [sl, s1, s2, s3]) (.mpp (mkL M) (mvL M)) [some (.cells [sl, s1, s2, s3] (30 + 1)), none] 0).t (flen (sumS (.agg [sl, s1, s2, s3]) (.mpp (mkL M) (mvL M)) [some (.cells [sl, s1, s2, s3] (30 + 1)), none] 0).h) e.1 e.2 (sumS (.agg [sl, s1, s2, s3]) (.mpp (mkL M) (mvL M)) [some (.cells [sl, s1, s2, s3] (30 + 1)), none] a) =
      some (sumS (.agg [sl, s1, s2, s3]) (.mpp (mkL M) (mvL M)) [some (.cells [sl, s1, s2, s3] (30 + 1)), none] (a + valI e.2)) := by
    intro e he a
    obtain ⟨x, hx, rfl⟩ := List.mem_map.1 he
    exact sum_round mx _ _ _ _ (.bool true) _ _ hv0 hmm (ltL_mono _ hp) x.1 x.2 a (hM.good x hx).1 (hM.good x hx).2
  have hrm := rmGos_comm (q := 19) (c := 20) (N := 1) (S := sumS (.agg [sl, s1, s2, s3]) (.mpp (mkL M) (mvL M)) [some (.cells [sl, s1, s2, s3] (30 + 1)), none]) (step := fun a e => a + valI e.2) (fun a e e' => by omega) (a0 := 0) (by rfl) hes
  have hks : (M.map (fun e => ((AV.str e.1, AV.int 9223372036854775807 e.2) : AV × AV))).map (·.1) = mkL M := by rw [List.map_map]; rfl
  have hvs : (M.map (fun e => ((AV.str e.1, AV.int 9223372036854775807 e.2) : AV × AV))).map (·.2) = mvL M := by rw [List.map_map]; rfl
  have hfold : ∀ (M : Cnt) (a : Int), (M.map (fun e => ((AV.str e.1, AV.int 9223372036854775807 e.2) : AV × AV))).foldl (fun a e => a + valI e.2) a = a + tot M := by
    intro M
    induction M with
    | nil => intro a; simp [tot]
    | cons e r ih => intro a; rw [List.map_cons, List.foldl_cons, ih]; simp [tot, valI]; omega
  have hw : IntKind.i64.wrap (0 + tot M) = ((named ks + bare (ks.take 0) : Nat) : Int) := by
    rw [htot, wrap_i64_id (by omega) (by omega)]; simp [bare]
  rw [hks, hvs, hfold M 0] at hrm
  unfold sumS at hrm
  rw [hw, show IntKind.i64.wrap 0 = 0 by rfl] at hrm
  obtain ⟨u8, u37, u43, u51, h', e1, e2⟩ := law_loop mx S (by omega) sl (hsl.imp id (·.1)) hM (some (Blk.cells [sl, s1, s2, s3] (30 + 1))) (.agg [sl, s1, s2, s3]) (.pto 0 0) (.bool false) .bot .bot (.bool false) (.bool false) (.pto 1 0) .bot .bot ks.length 0 503 [some (Blk.cells [sl, s1, s2, s3] (30 + 1)), none] .bot .bot .bot .bot (by omega) (by omega) (by simp) rfl
  refine ⟨h', ?_⟩
  rw [show ((0 : Nat) : Int) = 0 from rfl, List.take_zero] at e1
  simp only [guardC_b, guardC_u, beqB_tt, beqB_tf, beqB_ft, beqB_ff, min_eq, max_eq, vhO_kVH, ckX_same, bldS_int2, lt_agg, lt_tup, lt_int, lt_bool, lt_str, lt_nils, lt_sle, lt_nil, lt_slp, lt_ptp, kNrm_st, obindS, obindN, kThen_nrm, kThen_ret, kThen_exit, kOut_nrm, kOut_ret, kOut_exit, kIf_b, bqT, bqF, moveA_eq, pickA_eq, boxA_eq, newA_eq, cmp_eq, arith_eq, remA_eq, quoA_eq, notA_eq, negA_eq, cvI_eq, moveP_o, moveP_p, blkC_cells, load1_o, load1_p, loadG_o, loadG_p, store1_o, storeG_o, lenS_nils, lenS_sle, lenS_p, lenS_o, lenT_eq, idxS_p, idxS_o, idxT_eq, idxA_o, idxV1_eq, fld1_eq, fldG_eq, extA_eq, nilCk_o, nilCk_p, strAdd_eq, strCmp_eq, withX_some, withX_none, iaddE, isubE, imulE, iltE, igtE, ileE, igeE, ineE, ibeqE, hget_top, hget_zero, hget_succ, set_top, plains_nil, plains_cons, plain_int, plain_bool, plain_str, plain_nils, plain_slp, plain_sle, plain_nil, plain_pto, plain_ptp, plain_slo, nb_agg, nb_int, nb_bool, nb_str, nb_slp, nb_nils, nb_sle, nb_slo, cells_agg, cells_int, cells_bool, cells_str, List.length_cons, List.length_nil, List.length_append, List.take_succ_cons, List.take_zero, List.drop_succ_cons, List.drop_zero, List.cons_append, List.nil_append, List.append_nil, List.drop_nil, List.take_nil, List.getElem?_cons_zero, List.getElem?_cons_succ, List.set_cons_zero, List.set_cons_succ, Nat.reduceAdd, Nat.reduceMul, Nat.reduceSub, Nat.reduceLeDiff, Nat.reduceEqDiff, Nat.reduceLT, Nat.zero_add, Nat.add_zero, decide_true, decide_false, Bool.and_true, Bool.true_and, Bool.and_false, Bool.false_and, Bool.not_true, Bool.not_false, Nat.le_refl, reduceIte, kLaw_0_eq, kLaw_1_eq, kLaw_2_eq, kLaw_3_eq, kLaw_4_eq, kLaw_5_eq, kLaw_6_eq, kLaw_7_eq, kLaw_8_eq, kLaw_9_eq, kLaw_10_eq, kLaw_11_eq, kLaw_12_eq, kLaw_13_eq, kLaw_14_eq, kLaw_15_eq, kLaw_16_eq, kLaw_17_eq, kLaw_18_eq, kLaw_19_eq, kLaw_20_eq, kLaw_21_eq, kLaw_22_eq, kLaw_23_eq, kLaw_24_eq, kLaw_25_eq, kLaw_26_eq, kLaw_27_eq, kLaw_28_eq, kLaw_29_eq, kLaw_30_eq, kLaw_31_eq, kLaw_32_eq, kLaw_33_eq, kLaw_34_eq, kLaw_35_eq, kLaw_36_eq, kLaw_37_eq, kLaw_38_eq, kLaw_39_eq, kLaw_40_eq, kLaw_41_eq, kLaw_42_eq, kLaw_43_eq, kLaw_44_eq, kLaw_45_eq, kLaw_46_eq, kLaw_47_eq, kLaw_48_eq, kLaw_49_eq, kLaw_50_eq, kLaw_51_eq, kLaw_52_eq, kLaw_53_eq, kLaw_54_eq, kLaw_55_eq, kLaw_56_eq, kLaw_57_eq, kLaw_58_eq, kLaw_59_eq, kLaw_60_eq, kLaw_61_eq, kLaw_62_eq, kLaw_ret, kLaw_nrm, -kLaw_49_eq, flen_eq, fapp_eq, hhead, hL, decide_eq_false h5, hk, rmOnP_mpp, hrm, e1, e2, decide_eq_true (show (ks.length : Int) = (ks.length : Int) from rfl)]
/-- Steps that came in. -/
theorem steps_open {n : Nat} : ∀ {len : Nat} {cs : List AV}, TyL (TyC Tryz.prog n) (List.replicate len 36) cs → ∃ ks : List Int, ks.length = len ∧ Steps265 cs ks
  | 0, cs, h => by
    rw [show cs = [] from h]
    exact ⟨[], rfl, ⟨rfl, fun j k hj => by simp at hj, rfl⟩⟩
  | len + 1, cs, h => by
    rw [List.replicate_succ] at h
    obtain ⟨a, r, rfl, h1, h2⟩ := h
    obtain ⟨ks, g1, g2⟩ := steps_open h2
    have hla := h1.len
    rw [show Tryz.prog.cellsOf 36 = 265 by kernel_rfl] at hla
    have hpa := h1.plains
    obtain ⟨m, h1⟩ := TyC.struct_ Tryz.underlying36 h1
    have h1 : TyL (TyC Tryz.prog m) (3 :: _) a := h1
    obtain ⟨x, r1, rfl, hx, _⟩ := h1
    obtain ⟨k, rfl, wk⟩ := TyC.int_ Tryz.underlying3 hx
    obtain ⟨k0, k1⟩ := Go.bounds_i64 wk
    refine ⟨k :: ks, by simp [g1], ⟨?_, ?_, ?_⟩⟩
    · rw [List.length_append, hla, g2.len]; simp; omega
    · intro j q hj
      cases j with
      | zero =>
        cases hj
        exact ⟨rfl, by omega, by omega⟩
      | succ j =>
        have := g2.get j q hj
        refine ⟨?_, this.2⟩
        rw [List.getElem?_append_right (by omega), hla, show (j + 1) * 265 - 265 = j * 265 by omega]
        exact this.1
    · rw [plains_app, hpa, g2.pl]; rfl
set_option maxRecDepth 100000 in
theorem CostKinds_calls {W : World} {args : Array Value} {a0 : AV} {n0 : Nat} {mx : Int} (I : Inv (C0 mx) (· < W.heap.size) W ρ0 []) (hv : VL (· < W.heap.size) W [a0] ρ0 args.toList)
    (t0 : TyV Tryz.prog n0 30 a0) : Calls Tryz.prog 4 args W fun e w' => e = .returned (.bool true) ∧ RowKit.Below W.heap.size W w' := by
  obtain ⟨al, rfl, h⟩ := TyV.agg Tryz.underlying30 t0
  have hp := h.lt
  obtain ⟨m, h⟩ := TyC.struct_ Tryz.underlying30 h
  have h : TyL (TyC Tryz.prog m) [28, 3, 3, 3] al := h
  obtain ⟨b0, r0, rfl, h0, b1, r1, rfl, h1, b2, r2, rfl, h2, b3, r3, rfl, h3, hz⟩ := h
  rw [show r3 = [] from hz] at hp hv
  obtain ⟨s1, rfl⟩ := TyC.one (by kernel_rfl) h1
  obtain ⟨s2, rfl⟩ := TyC.one (by kernel_rfl) h2
  obtain ⟨s3, rfl⟩ := TyC.one (by kernel_rfl) h3
  obtain ⟨sl, cs, ks, rfl, S, hs⟩ : ∃ sl cs ks, b0 = [sl] ∧ Steps265 cs ks ∧ (sl = .slp cs ks.length ∨ (ks.length = 0 ∧ (sl = .nils ∨ sl = .sle))) := by
    rcases TyC.slice_ Tryz.underlying28 h0 with rfl | rfl | ⟨m, cs, len, rfl, h1, h2, h3⟩
    · exact ⟨_, [], [], rfl, ⟨rfl, fun j k hj => by simp at hj, rfl⟩, .inr ⟨rfl, .inl rfl⟩⟩
    · exact ⟨_, [], [], rfl, ⟨rfl, fun j k hj => by simp at hj, rfl⟩, .inr ⟨rfl, .inr rfl⟩⟩
    · obtain ⟨ks, g1, g2⟩ := steps_open h3
      exact ⟨_, cs, ks, rfl, g2, .inl (by rw [g1])⟩
  obtain ⟨h', e⟩ := law_run mx S sl hs s1 s2 s3 hp
  exact calls_of_run (runN_ok cl_ok 504 _ _ _ _ _ e) (I.of_gl (told_gl _ _)) hv
end Go.Proofs.YtgkldjllknidkaaGreatDoor
