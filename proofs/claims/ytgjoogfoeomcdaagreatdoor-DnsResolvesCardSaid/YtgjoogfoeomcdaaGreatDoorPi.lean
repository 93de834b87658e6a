/- Which type a byte begins: its answer told by a law of its own. The functions' equations are printed by a program. -/
import Derived.Test.YtgjoogfoeomcdaaGreatDoorMF
import Derived.Test.YtgjoogfoeomcdaaGreatDoorME
namespace Go.Proofs.YtgjoogfoeomcdaaGreatDoor
set_option linter.unusedSimpArgs false
set_option linter.unusedVariables false
set_option linter.unnecessarySimpa false
noncomputable section
/- guipure/first.Pick -/
def kPic_T (v0 v1 v2 v3 v6 v7 v8 v16 v18 v19 v20 v21 v41 : AV) : Tm := (.nd 8 (.nd 3 (.nd 1 (.lf 0 v0) (.nd 2 (.lf 1 v1) (.lf 2 v2))) (.nd 6 (.lf 3 v3) (.nd 7 (.lf 6 v6) (.lf 7 v7)))) (.nd 19 (.nd 16 (.lf 8 v8) (.nd 18 (.lf 16 v16) (.lf 18 v18))) (.nd 21 (.nd 20 (.lf 19 v19) (.lf 20 v20)) (.nd 41 (.lf 21 v21) (.lf 41 v41)))))
section
variable (C : Cx) (run : Run) (lp : Lp) (s : St) (h : AH) (v0 v1 v2 v3 v6 v7 v8 v16 v18 v19 v20 v21 v41 : AV)
def kPic_0 (C : Cx) : K := .reg [.mk (o1 (boxA 129) (.tr 0)), .mk (o1 moveA (.cst (.int 9223372036854775807 0)))] [(6, 0), (3, 1)]
theorem kPic_0_eq : kx C run lp (kPic_0 C) ⟨kPic_T v0 v1 v2 v3 v6 v7 v8 v16 v18 v19 v20 v21 v41, h⟩ = kNrm (boxA 129 v0 h (fun a0 h => moveA (.int 9223372036854775807 0) h (fun a1 h => some (.st (kPic_T v0 v1 v2 a0 a1 v7 v8 v16 v18 v19 v20 v21 v41) h)))) := (rfl)
def kPic_1 (C : Cx) : K := .reg [.mk (o1 (moveP 0) (.tr 3)), .mk (o1 load1 (.st 0)), .mk (o2 (cmp ine) (.st 0) (.cst (.int 9223372036854775807 10))), .mk (o1 moveA (.st 0)), .mk (guardA (.st 0) true ((o1 (moveP 0) (.tr 3)))), .mk (guardA (.st 1) true ((o1 load1 (.st 0)))), .mk (guardA (.st 2) true ((o2 (cmp ine) (.st 0) (.cst (.int 9223372036854775807 11))))), .mk (o3 pickA (.st 3) (.st 0) (.cst (.bool false)))] [(16, 0)]
theorem kPic_1_eq : kx C run lp (kPic_1 C) ⟨kPic_T v0 v1 v2 v3 v6 v7 v8 v16 v18 v19 v20 v21 v41, h⟩ = kNrm (moveP 0 v3 h (fun a0 h => load1 a0 h (fun a1 h => cmp ine a1 (.int 9223372036854775807 10) h (fun a2 h => moveA a2 h (fun a3 h => guardC a3 true (fun κ => moveP 0 v3 h (κ)) h (fun a4 h => guardC a3 true (fun κ => load1 a4 h (κ)) h (fun a5 h => guardC a3 true (fun κ => cmp ine a5 (.int 9223372036854775807 11) h (κ)) h (fun a6 h => pickA a3 a6 (.bool false) h (fun a7 h => some (.st (kPic_T v0 v1 v2 v3 v6 v7 v8 a7 v18 v19 v20 v21 v41) h)))))))))) := (rfl)
def kPic_2 (C : Cx) : K := .reg [.mk (o1 moveA (.cst (.int 9223372036854775807 (-1))))] [(6, 0)]
theorem kPic_2_eq : kx C run lp (kPic_2 C) ⟨kPic_T v0 v1 v2 v3 v6 v7 v8 v16 v18 v19 v20 v21 v41, h⟩ = kNrm (moveA (.int 9223372036854775807 (-1)) h (fun a0 h => some (.st (kPic_T v0 v1 v2 v3 a0 v7 v8 v16 v18 v19 v20 v21 v41) h))) := (rfl)
def kPic_3 (_ : Cx) : K := .ex .ret
theorem kPic_3_eq : kx C run lp (kPic_3 C) s = some (.ret, s) := (rfl)
def kPic_4 (C : Cx) : K := .seq (kPic_2 C) (kPic_3 C)
theorem kPic_4_eq : kx C run lp (kPic_4 C) s = obind (kx C run lp (kPic_2 C) s) (kThen (kx C run lp (kPic_3 C))) := (rfl)
def kPic_5 (_ : Cx) : K := .skip
theorem kPic_5_eq : kx C run lp (kPic_5 C) s = some (.nrm, s) := (rfl)
def kPic_6 (C : Cx) : K := .cond (.tr 16) (kPic_4 C) (kPic_5 C)
theorem kPic_6_eq : kx C run lp (kPic_6 C) ⟨kPic_T v0 v1 v2 v3 v6 v7 v8 v16 v18 v19 v20 v21 v41, h⟩ = kIf v16 (kx C run lp (kPic_4 C)) (kx C run lp (kPic_5 C)) ⟨kPic_T v0 v1 v2 v3 v6 v7 v8 v16 v18 v19 v20 v21 v41, h⟩ := (rfl)
def kPic_7 (C : Cx) : K := .seq (kPic_1 C) (kPic_6 C)
theorem kPic_7_eq : kx C run lp (kPic_7 C) s = obind (kx C run lp (kPic_1 C) s) (kThen (kx C run lp (kPic_6 C))) := (rfl)
def kPic_8 (C : Cx) : K := .reg [.mk (o1 (moveP 11) (.tr 3)), .mk (o1 load1 (.st 0)), .mk (o1 lenS (.st 0)), .mk (o1 moveA (.cst (.int 9223372036854775807 0)))] [(20, 0), (19, 1), (18, 2)]
theorem kPic_8_eq : kx C run lp (kPic_8 C) ⟨kPic_T v0 v1 v2 v3 v6 v7 v8 v16 v18 v19 v20 v21 v41, h⟩ = kNrm (moveP 11 v3 h (fun a0 h => load1 a0 h (fun a1 h => lenS a1 h (fun a2 h => moveA (.int 9223372036854775807 0) h (fun a3 h => some (.st (kPic_T v0 v1 v2 v3 v6 v7 v8 v16 a1 a2 a3 v21 v41) h)))))) := (rfl)
def kPic_9 (C : Cx) : K := .reg [.mk (o2 (cmp ilt) (.tr 20) (.tr 19))] [(21, 0)]
theorem kPic_9_eq : kx C run lp (kPic_9 C) ⟨kPic_T v0 v1 v2 v3 v6 v7 v8 v16 v18 v19 v20 v21 v41, h⟩ = kNrm (cmp ilt v20 v19 h (fun a0 h => some (.st (kPic_T v0 v1 v2 v3 v6 v7 v8 v16 v18 v19 v20 a0 v41) h))) := (rfl)
def kPic_10 (_ : Cx) : K := .skip
theorem kPic_10_eq : kx C run lp (kPic_10 C) s = some (.nrm, s) := (rfl)
def kPic_11 (_ : Cx) : K := .ex (.exit 0)
theorem kPic_11_eq : kx C run lp (kPic_11 C) s = some (.exit 0, s) := (rfl)
def kPic_12 (C : Cx) : K := .cond (.tr 21) (kPic_10 C) (kPic_11 C)
theorem kPic_12_eq : kx C run lp (kPic_12 C) ⟨kPic_T v0 v1 v2 v3 v6 v7 v8 v16 v18 v19 v20 v21 v41, h⟩ = kIf v21 (kx C run lp (kPic_10 C)) (kx C run lp (kPic_11 C)) ⟨kPic_T v0 v1 v2 v3 v6 v7 v8 v16 v18 v19 v20 v21 v41, h⟩ := (rfl)
def kPic_13 (C : Cx) : K := .reg [.mk (o1 moveA (.tr 20)), .mk (o2 (idxS 1) (.tr 18) (.tr 20)), .mk (o1 load1 (.st 0)), .mk (o1 moveA (.st 2)), .mk (o1 moveA (.st 1))] [(8, 0), (7, 1)]
theorem kPic_13_eq : kx C run lp (kPic_13 C) ⟨kPic_T v0 v1 v2 v3 v6 v7 v8 v16 v18 v19 v20 v21 v41, h⟩ = kNrm (moveA v20 h (fun a0 h => idxS 1 v18 v20 h (fun a1 h => load1 a1 h (fun a2 h => moveA a0 h (fun a3 h => moveA a2 h (fun a4 h => some (.st (kPic_T v0 v1 v2 v3 v6 a3 a4 v16 v18 v19 v20 v21 v41) h))))))) := (rfl)
def kPic_14 (C : Cx) : K := .reg [.mk (o1 moveA (.tr 8)), .mk (o2 (cmp ige) (.st 0) (.cst (.int 9223372036854775807 0))), .mk (o1 moveA (.st 0)), .mk (guardA (.st 0) true ((o1 moveA (.tr 8)))), .mk (guardA (.st 1) true ((o1 moveA (.tr 1)))), .mk (guardA (.st 2) true ((o1 lenS (.st 0)))), .mk (guardA (.st 3) true ((o2 (cmp ilt) (.st 2) (.st 0)))), .mk (o3 pickA (.st 4) (.st 0) (.cst (.bool false))), .mk (o1 moveA (.st 0)), .mk (guardA (.st 0) true ((o1 moveA (.tr 1)))), .mk (guardA (.st 1) true ((o1 moveA (.tr 8)))), .mk (guardA (.st 2) true ((o2 (idxS 6) (.st 1) (.st 0)))), .mk (guardA (.st 3) true ((o1 (moveP 0) (.st 0)))), .mk (guardA (.st 4) true ((o1 (loadG 4) (.st 0)))), .mk (guardA (.st 5) true ((o1 moveA (.tr 2)))), .mk (guardA (.st 6) true ((oCallF 343 [(.st 1), (.st 0)]))), .mk (o3 pickA (.st 7) (.st 0) (.cst (.bool false)))] [(41, 0)]
theorem kPic_14_eq : kx C run lp (kPic_14 C) ⟨kPic_T v0 v1 v2 v3 v6 v7 v8 v16 v18 v19 v20 v21 v41, h⟩ = kNrm (moveA v8 h (fun a0 h => cmp ige a0 (.int 9223372036854775807 0) h (fun a1 h => moveA a1 h (fun a2 h => guardC a2 true (fun κ => moveA v8 h (κ)) h (fun a3 h => guardC a2 true (fun κ => moveA v1 h (κ)) h (fun a4 h => guardC a2 true (fun κ => lenS a4 h (κ)) h (fun a5 h => guardC a2 true (fun κ => cmp ilt a3 a5 h (κ)) h (fun a6 h => pickA a2 a6 (.bool false) h (fun a7 h => moveA a7 h (fun a8 h => guardC a8 true (fun κ => moveA v1 h (κ)) h (fun a9 h => guardC a8 true (fun κ => moveA v8 h (κ)) h (fun a10 h => guardC a8 true (fun κ => idxS 6 a9 a10 h (κ)) h (fun a11 h => guardC a8 true (fun κ => moveP 0 a11 h (κ)) h (fun a12 h => guardC a8 true (fun κ => loadG 4 a12 h (κ)) h (fun a13 h => guardC a8 true (fun κ => moveA v2 h (κ)) h (fun a14 h => guardC a8 true (fun κ => withX (κ) (callA C run 343 [a13, a14] h)) h (fun a15 h => pickA a8 a15 (.bool false) h (fun a16 h => some (.st (kPic_T v0 v1 v2 v3 v6 v7 v8 v16 v18 v19 v20 v21 a16) h))))))))))))))))))) := by kernel_rfl
def kPic_15 (C : Cx) : K := .reg [.mk (o1 moveA (.tr 7)), .mk (o1 moveA (.st 0))] [(6, 0)]
theorem kPic_15_eq : kx C run lp (kPic_15 C) ⟨kPic_T v0 v1 v2 v3 v6 v7 v8 v16 v18 v19 v20 v21 v41, h⟩ = kNrm (moveA v7 h (fun a0 h => moveA a0 h (fun a1 h => some (.st (kPic_T v0 v1 v2 v3 a1 v7 v8 v16 v18 v19 v20 v21 v41) h)))) := (rfl)
def kPic_16 (_ : Cx) : K := .ex .ret
theorem kPic_16_eq : kx C run lp (kPic_16 C) s = some (.ret, s) := (rfl)
def kPic_17 (C : Cx) : K := .seq (kPic_15 C) (kPic_16 C)
theorem kPic_17_eq : kx C run lp (kPic_17 C) s = obind (kx C run lp (kPic_15 C) s) (kThen (kx C run lp (kPic_16 C))) := (rfl)
def kPic_18 (_ : Cx) : K := .skip
theorem kPic_18_eq : kx C run lp (kPic_18 C) s = some (.nrm, s) := (rfl)
def kPic_19 (C : Cx) : K := .cond (.tr 41) (kPic_17 C) (kPic_18 C)
theorem kPic_19_eq : kx C run lp (kPic_19 C) ⟨kPic_T v0 v1 v2 v3 v6 v7 v8 v16 v18 v19 v20 v21 v41, h⟩ = kIf v41 (kx C run lp (kPic_17 C)) (kx C run lp (kPic_18 C)) ⟨kPic_T v0 v1 v2 v3 v6 v7 v8 v16 v18 v19 v20 v21 v41, h⟩ := (rfl)
def kPic_20 (C : Cx) : K := .seq (kPic_14 C) (kPic_19 C)
theorem kPic_20_eq : kx C run lp (kPic_20 C) s = obind (kx C run lp (kPic_14 C) s) (kThen (kx C run lp (kPic_19 C))) := (rfl)
def kPic_21 (C : Cx) : K := .seq (kPic_13 C) (kPic_20 C)
theorem kPic_21_eq : kx C run lp (kPic_21 C) s = obind (kx C run lp (kPic_13 C) s) (kThen (kx C run lp (kPic_20 C))) := (rfl)
def kPic_22 (C : Cx) : K := .block 1 (kPic_21 C)
theorem kPic_22_eq : kx C run lp (kPic_22 C) s = obind (kx C run lp (kPic_21 C) s) (kOut 1) := (rfl)
def kPic_23 (C : Cx) : K := .reg [.mk (o2 (arith iadd) (.tr 20) (.cst (.int 9223372036854775807 1))), .mk (o1 moveA (.st 0))] [(20, 0)]
theorem kPic_23_eq : kx C run lp (kPic_23 C) ⟨kPic_T v0 v1 v2 v3 v6 v7 v8 v16 v18 v19 v20 v21 v41, h⟩ = kNrm (arith iadd v20 (.int 9223372036854775807 1) h (fun a0 h => moveA a0 h (fun a1 h => some (.st (kPic_T v0 v1 v2 v3 v6 v7 v8 v16 v18 v19 a1 v21 v41) h)))) := (rfl)
def kPic_24 (C : Cx) : K := .seq (kPic_22 C) (kPic_23 C)
theorem kPic_24_eq : kx C run lp (kPic_24 C) s = obind (kx C run lp (kPic_22 C) s) (kThen (kx C run lp (kPic_23 C))) := (rfl)
def kPic_25 (C : Cx) : K := .seq (kPic_12 C) (kPic_24 C)
theorem kPic_25_eq : kx C run lp (kPic_25 C) s = obind (kx C run lp (kPic_12 C) s) (kThen (kx C run lp (kPic_24 C))) := (rfl)
def kPic_26 (C : Cx) : K := .seq (kPic_9 C) (kPic_25 C)
theorem kPic_26_eq : kx C run lp (kPic_26 C) s = obind (kx C run lp (kPic_9 C) s) (kThen (kx C run lp (kPic_25 C))) := (rfl)
def kPic_27 (C : Cx) : K := .loop (kPic_26 C)
theorem kPic_27_eq : kx C run lp (kPic_27 C) s = lp (kPic_26 C) s := (rfl)
def kPic_28 (C : Cx) : K := .block 0 (kPic_27 C)
theorem kPic_28_eq : kx C run lp (kPic_28 C) s = obind (kx C run lp (kPic_27 C) s) (kOut 0) := (rfl)
def kPic_29 (C : Cx) : K := .seq (kPic_8 C) (kPic_28 C)
theorem kPic_29_eq : kx C run lp (kPic_29 C) s = obind (kx C run lp (kPic_8 C) s) (kThen (kx C run lp (kPic_28 C))) := (rfl)
def kPic_30 (C : Cx) : K := .reg [.mk (o1 moveA (.cst (.int 9223372036854775807 (-1))))] [(6, 0)]
theorem kPic_30_eq : kx C run lp (kPic_30 C) ⟨kPic_T v0 v1 v2 v3 v6 v7 v8 v16 v18 v19 v20 v21 v41, h⟩ = kNrm (moveA (.int 9223372036854775807 (-1)) h (fun a0 h => some (.st (kPic_T v0 v1 v2 v3 a0 v7 v8 v16 v18 v19 v20 v21 v41) h))) := (rfl)
def kPic_31 (_ : Cx) : K := .ex .ret
theorem kPic_31_eq : kx C run lp (kPic_31 C) s = some (.ret, s) := (rfl)
def kPic_32 (C : Cx) : K := .seq (kPic_30 C) (kPic_31 C)
theorem kPic_32_eq : kx C run lp (kPic_32 C) s = obind (kx C run lp (kPic_30 C) s) (kThen (kx C run lp (kPic_31 C))) := (rfl)
def kPic_33 (C : Cx) : K := .seq (kPic_29 C) (kPic_32 C)
theorem kPic_33_eq : kx C run lp (kPic_33 C) s = obind (kx C run lp (kPic_29 C) s) (kThen (kx C run lp (kPic_32 C))) := (rfl)
def kPic_34 (C : Cx) : K := .seq (kPic_7 C) (kPic_33 C)
theorem kPic_34_eq : kx C run lp (kPic_34 C) s = obind (kx C run lp (kPic_7 C) s) (kThen (kx C run lp (kPic_33 C))) := (rfl)
def kPic_35 (C : Cx) : K := .seq (kPic_0 C) (kPic_34 C)
theorem kPic_35_eq : kx C run lp (kPic_35 C) s = obind (kx C run lp (kPic_0 C) s) (kThen (kx C run lp (kPic_34 C))) := (rfl)
theorem kPic_ret : endA C [.tmp 6] (.ret, ⟨kPic_T v0 v1 v2 v3 v6 v7 v8 v16 v18 v19 v20 v21 v41, h⟩) = some (v6, h) := (rfl)
theorem kPic_nrm : endA C [.tmp 6] (.nrm, ⟨kPic_T v0 v1 v2 v3 v6 v7 v8 v16 v18 v19 v20 v21 v41, h⟩) = some (v6, h) := (rfl)
end
def kPic_F (C : Cx) : FK := ⟨kPic_35 C, [0, 1, 2, 3, 6, 7, 8, 16, 18, 19, 20, 21, 41], 44, [.tmp 6]⟩
theorem kPic_run (C : Cx) (run : Run) (lp : Lp) (x0 x1 x2 : AV) (h : AH) (ho : C.orc 312 = none) (hf : fkAt C 312 = some (kPic_F C)) : runF C run lp 312 [x0, x1, x2] h = obind (kx C run lp (kPic_35 C) ⟨kPic_T x0 x1 x2 .bot .bot .bot .bot .bot .bot .bot .bot .bot .bot, h⟩) (endA C [.tmp 6]) := by
  unfold runF; rw [ho, hf]; rfl
/- (guipure/class.Set).Has -/
def kHas_T (v0 v1 v2 v4 : AV) : Tm := (.nd 2 (.nd 1 (.lf 0 v0) (.lf 1 v1)) (.nd 4 (.lf 2 v2) (.lf 4 v4)))
section
variable (C : Cx) (run : Run) (lp : Lp) (s : St) (h : AH) (v0 v1 v2 v4 : AV)
def kHas_0 (C : Cx) : K := .reg [.mk (o1 (boxA 120) (.tr 0)), .mk (o1 moveA (.cst (.bool false)))] [(4, 0), (2, 1)]
theorem kHas_0_eq : kx C run lp (kHas_0 C) ⟨kHas_T v0 v1 v2 v4, h⟩ = kNrm (boxA 120 v0 h (fun a0 h => moveA (.bool false) h (fun a1 h => some (.st (kHas_T v0 v1 a0 a1) h)))) := (rfl)
def kHas_1 (C : Cx) : K := .reg [.mk (o1 moveA (.tr 1)), .mk (o2 (shrA 255 8) (.st 0) (.cst (.int 18446744073709551615 6))), .mk (o2 (idxA 4 1) (.tr 2) (.st 0)), .mk (o1 load1 (.st 0)), .mk (o1 moveA (.tr 1)), .mk (o2 (bitA 255 255 Nat.land) (.st 0) (.cst (.int 255 63))), .mk (o2 (shrA 18446744073709551615 64) (.st 2) (.st 0)), .mk (o2 (bitA 18446744073709551615 18446744073709551615 Nat.land) (.st 0) (.cst (.int 18446744073709551615 1))), .mk (o2 (cmp ibeq) (.st 0) (.cst (.int 18446744073709551615 1))), .mk (o1 moveA (.st 0))] [(4, 0)]
theorem kHas_1_eq : kx C run lp (kHas_1 C) ⟨kHas_T v0 v1 v2 v4, h⟩ = kNrm (moveA v1 h (fun a0 h => shrA 255 8 a0 (.int 18446744073709551615 6) h (fun a1 h => idxA 4 1 v2 a1 h (fun a2 h => load1 a2 h (fun a3 h => moveA v1 h (fun a4 h => bitA 255 255 Nat.land a4 (.int 255 63) h (fun a5 h => shrA 18446744073709551615 64 a3 a5 h (fun a6 h => bitA 18446744073709551615 18446744073709551615 Nat.land a6 (.int 18446744073709551615 1) h (fun a7 h => cmp ibeq a7 (.int 18446744073709551615 1) h (fun a8 h => moveA a8 h (fun a9 h => some (.st (kHas_T v0 v1 v2 a9) h)))))))))))) := (rfl)
def kHas_2 (_ : Cx) : K := .ex .ret
theorem kHas_2_eq : kx C run lp (kHas_2 C) s = some (.ret, s) := (rfl)
def kHas_3 (C : Cx) : K := .seq (kHas_1 C) (kHas_2 C)
theorem kHas_3_eq : kx C run lp (kHas_3 C) s = obind (kx C run lp (kHas_1 C) s) (kThen (kx C run lp (kHas_2 C))) := (rfl)
def kHas_4 (C : Cx) : K := .seq (kHas_0 C) (kHas_3 C)
theorem kHas_4_eq : kx C run lp (kHas_4 C) s = obind (kx C run lp (kHas_0 C) s) (kThen (kx C run lp (kHas_3 C))) := (rfl)
theorem kHas_ret : endA C [.tmp 4] (.ret, ⟨kHas_T v0 v1 v2 v4, h⟩) = some (v4, h) := (rfl)
theorem kHas_nrm : endA C [.tmp 4] (.nrm, ⟨kHas_T v0 v1 v2 v4, h⟩) = some (v4, h) := (rfl)
end
def kHas_F (C : Cx) : FK := ⟨kHas_4 C, [0, 1, 2, 4], 14, [.tmp 4]⟩
theorem kHas_run (C : Cx) (run : Run) (lp : Lp) (x0 x1 : AV) (h : AH) (ho : C.orc 343 = none) (hf : fkAt C 343 = some (kHas_F C)) : runF C run lp 343 [x0, x1] h = obind (kx C run lp (kHas_4 C) ⟨kHas_T x0 x1 .bot .bot, h⟩) (endA C [.tmp 4]) := by
  unfold runF; rw [ho, hf]; rfl

theorem kPic_fk (mx : Int) : fkAt (C0 mx) 312 = some (kPic_F (C0 mx)) := by kernel_rfl
theorem kHas_fk (mx : Int) : fkAt (C0 mx) 343 = some (kHas_F (C0 mx)) := by kernel_rfl
/-- A bit of a number. -/
def wbit (w c : Nat) : Bool := Nat.beq (Nat.land (Nat.div w (Nat.pow 2 c)) 1) 1
/-- A whole number that isn't below 0. -/
def natV (m : Nat) (v : AV) (f : Nat → Option Int) : Option Int := match v with
  | .int k (.ofNat n) => bq (Nat.beq k m) (f n) none
  | _ => none
/-- The first of these types that a byte begins. -/
def pickL (inf : List AV) (ni c : Nat) : List AV → Nat → Option Int
  | [], _ => some (-1)
  | v :: r, i => natV 9223372036854775807 v fun k => bq (Nat.blt k ni) (bq (Nat.ble (Nat.add (Nat.mul k 6) 4) (flen inf)) (obind (fget inf (Nat.add (Nat.mul k 6) (Nat.div c 64))) fun w => natV 18446744073709551615 w fun w => bq (and (Nat.ble w 18446744073709551615) (ltL 0 (ftake 4 (fdrop (Nat.mul k 6) inf)))) (bq (wbit w (Nat.mod c 64)) (some (.ofNat i)) (pickL inf ni c r (Nat.succ i))) none) none) (pickL inf ni c r (Nat.succ i))
def pickG (args : List AV) (h : AH) : Option (AV × AH) := match args with
  | [.agg nd, .slp inf ni, .int 255 (.ofNat c)] => bq (and (Nat.blt c 256) (ltL 0 nd)) (match fget nd 0, fget nd 11 with
    | some (.int 9223372036854775807 (.ofNat k)), some (.slp kids nk) => bq (and (or (Nat.beq k 10) (Nat.beq k 11)) (and (Nat.ble nk (flen kids)) (Nat.ble nk 1000000))) (obind (pickL inf ni c (ftake nk kids) 0) fun i => some (.int 9223372036854775807 i, h)) none
    | _, _ => none) none
  | _ => none
end
theorem has_run (mx : Int) (f : Nat) {ws : List AV} {w c : Nat} (hl : ws.length = 4) (hc : c < 256) (hw : ws[c / 64]? = some (.int 18446744073709551615 (w : Int))) (hw2 : w ≤ 18446744073709551615) (h : AH) :
    (rl (C0 mx) (f + 1)).run 343 [.agg ws, .int 255 (c : Int)] h = some (.bool (wbit w (c % 64)), h ++ [some (.cells ws (119 + 1))]) := by
  rw [rl_run, kHas_run _ _ _ _ _ _ (by kernel_rfl) (kHas_fk mx)]
  have s1 : ∀ (h : AH) (κ : Ka), shrA 255 8 (.int 255 (c : Int)) (.int 18446744073709551615 6) h κ = κ (.int 255 ((c / 64 : Nat) : Int)) h := fun h κ => by
    rw [shrA_eq c (by decide) (by decide), show 2 ^ Int.toNat 6 = 64 by simp]
  have b1 : ∀ (h : AH) (κ : Ka), bitA 255 255 Nat.land (.int 255 (c : Int)) (.int 255 63) h κ = κ (.int 255 ((c % 64 : Nat) : Int)) h := fun h κ => by
    rw [bitA_eq, toU_nat (by omega), show toU 255 63 = 63 from toU_int (by decide) (by decide), show Nat.land c 63 = c % 64 from Nat.and_two_pow_sub_one_eq_mod c 6, wrapA_nat (by omega)]
  have s2 : ∀ (h : AH) (κ : Ka), shrA 18446744073709551615 64 (.int 18446744073709551615 (w : Int)) (.int 255 ((c % 64 : Nat) : Int)) h κ = κ (.int 18446744073709551615 ((w / 2 ^ (c % 64) : Nat) : Int)) h := fun h κ => by
    rw [shrA_eq w (by omega) (by omega), show ((c % 64 : Nat) : Int).toNat = c % 64 from Int.toNat_natCast _]
  have hle : w / 2 ^ (c % 64) ≤ 18446744073709551615 := Nat.le_trans (Nat.div_le_self _ _) hw2
  have b2 : ∀ (h : AH) (κ : Ka), bitA 18446744073709551615 18446744073709551615 Nat.land (.int 18446744073709551615 ((w / 2 ^ (c % 64) : Nat) : Int)) (.int 18446744073709551615 1) h κ = κ (.int 18446744073709551615 ((Nat.land (w / 2 ^ (c % 64)) 1 : Nat) : Int)) h := fun h κ => by
    have h1 : Nat.land (w / 2 ^ (c % 64)) 1 = w / 2 ^ (c % 64) % 2 := Nat.and_one_is_mod _
    rw [bitA_eq, toU_nat hle, show toU 18446744073709551615 1 = 1 from toU_int (by decide) (by decide), wrapA_nat (by rw [h1]; omega)]
  have hd : decide (c / 64 < 4) = true := by rw [decide_eq_true_iff]; omega
  have e1 : decide (((Nat.land (w / 2 ^ (c % 64)) 1 : Nat) : Int) = 1) = wbit w (c % 64) := by
    show _ = Nat.beq (Nat.land (w / 2 ^ (c % 64)) 1) 1
    rw [nbeq]
    congr 1
    exact propext ⟨fun e => by omega, fun e => by omega⟩
  simp only [guardC_b, guardC_u, beqB_tt, beqB_tf, beqB_ft, beqB_ff, min_eq, max_eq, vhO_kVH, ckN_eq, ckE_eq, List.length_set, ckX_same, bldS_int2, lt_agg, lt_tup, lt_int, lt_bool, lt_str, lt_nils, lt_sle, lt_nil, lt_slp, lt_ptp, kNrm_st, obindS, obindN, kThen_nrm, kThen_ret, kThen_exit, kOut_nrm, kOut_ret, kOut_exit, kIf_b, bqT, bqF, moveA_eq, pickA_eq, boxA_eq, newA_eq, cmp_eq, arith_eq, remA_eq, quoA_eq, notA_eq, negA_eq, cvI_eq, moveP_o, moveP_p, blkC_cells, load1_o, load1_p, loadG_o, loadG_p, store1_o, storeG_o, lenS_nils, lenS_sle, lenS_p, lenS_o, lenT_eq, idxS_p, idxS_o, idxT_eq, idxA_o, idxV1_eq, fld1_eq, fldG_eq, extA_eq, nilCk_o, nilCk_p, strAdd_eq, strCmp_eq, withX_some, withX_none, iaddE, isubE, imulE, iltE, igtE, ileE, igeE, ineE, ibeqE, hget_top, hget_zero, hget_succ, set_top, plains_nil, plains_cons, plain_int, plain_bool, plain_str, plain_nils, plain_slp, plain_sle, plain_nil, plain_pto, plain_ptp, plain_slo, nb_agg, nb_int, nb_bool, nb_str, nb_slp, nb_nils, nb_sle, nb_slo, cells_agg, cells_int, cells_bool, cells_str, List.length_cons, List.length_nil, List.length_append, List.take_succ_cons, List.take_zero, List.drop_succ_cons, List.drop_zero, List.cons_append, List.nil_append, List.append_nil, List.drop_nil, List.take_nil, List.getElem?_cons_zero, List.getElem?_cons_succ, List.set_cons_zero, List.set_cons_succ, Nat.reduceAdd, Nat.reduceMul, Nat.reduceSub, Nat.reduceLeDiff, Nat.reduceEqDiff, Nat.reduceLT, Nat.zero_add, Nat.add_zero, decide_true, decide_false, Bool.and_true, Bool.true_and, Bool.and_false, Bool.false_and, Bool.not_true, Bool.not_false, Nat.le_refl, reduceIte, kHas_0_eq, kHas_1_eq, kHas_2_eq, kHas_3_eq, kHas_4_eq, kHas_ret, kHas_nrm, s1, hd, idxA_o, Nat.mul_one, hw, b1, s2, b2, e1]
theorem natV_some {m : Nat} {v : AV} {f : Nat → Option Int} {r : Int} (e : natV m v f = some r) : ∃ n : Nat, v = .int m (n : Int) ∧ f n = some r := by
  unfold natV at e
  split at e
  · rename_i k n
    cases h : Nat.beq k m with
    | true =>
      rw [h, bq_true] at e
      obtain rfl := Nat.eq_of_beq_eq_true h
      exact ⟨n, rfl, e⟩
    | false => rw [h, bq_false] at e; cases e
  · cases e
theorem pick_loop (mx : Int) {inf kids : List AV} {nd : AV} {ni nk c : Nat} (hc : c < 256) (hk : nk ≤ kids.length) (hn : nk ≤ 1000000) (H : AH) (v3 v6 v16 : AV) : ∀ (l : List AV) (i f : Nat) (r : Int) (v7 v8 v21 v41 : AV), (kids.take nk).drop i = l → i ≤ nk → l.length + 4 ≤ f → pickL inf ni c l i = some r →
    (∃ s, (rl (C0 mx) f).lp (kPic_26 (C0 mx)) ⟨kPic_T nd (.slp inf ni) (.int 255 (c : Int)) v3 v6 v7 v8 v16 (.slp kids nk) (.int 9223372036854775807 (nk : Int)) (.int 9223372036854775807 (i : Int)) v21 v41, H⟩ = some (.ret, s) ∧ endA (C0 mx) [.tmp 6] (.ret, s) = some (.int 9223372036854775807 r, H)) ∨
    (r = -1 ∧ ∃ u7 u8 u20 u21 u41, (rl (C0 mx) f).lp (kPic_26 (C0 mx)) ⟨kPic_T nd (.slp inf ni) (.int 255 (c : Int)) v3 v6 v7 v8 v16 (.slp kids nk) (.int 9223372036854775807 (nk : Int)) (.int 9223372036854775807 (i : Int)) v21 v41, H⟩ = some (.exit 0, ⟨kPic_T nd (.slp inf ni) (.int 255 (c : Int)) v3 v6 u7 u8 v16 (.slp kids nk) (.int 9223372036854775807 (nk : Int)) u20 u21 u41, H⟩)) := by
  intro l
  induction l with
  | nil =>
    intro i f r v7 v8 v21 v41 hl hi hf e
    obtain ⟨f, rfl⟩ : ∃ g, f = g + 1 := ⟨f - 1, by omega⟩
    right
    have hge : nk ≤ i := by
      have := List.drop_eq_nil_iff.1 hl
      rw [List.length_take, Nat.min_eq_left hk] at this
      exact this
    have d0 : decide ((i : Int) < (nk : Int)) = false := by rw [decide_eq_false_iff_not]; omega
    refine ⟨by cases e; rfl, v7, v8, .int 9223372036854775807 (i : Int), .bool false, v41, ?_⟩
    rw [rl_lp]
    simp only [guardC_b, guardC_u, beqB_tt, beqB_tf, beqB_ft, beqB_ff, min_eq, max_eq, vhO_kVH, ckN_eq, ckE_eq, List.length_set, ckX_same, bldS_int2, lt_agg, lt_tup, lt_int, lt_bool, lt_str, lt_nils, lt_sle, lt_nil, lt_slp, lt_ptp, kNrm_st, obindS, obindN, kThen_nrm, kThen_ret, kThen_exit, kOut_nrm, kOut_ret, kOut_exit, kIf_b, bqT, bqF, moveA_eq, pickA_eq, boxA_eq, newA_eq, cmp_eq, arith_eq, remA_eq, quoA_eq, notA_eq, negA_eq, cvI_eq, moveP_o, moveP_p, blkC_cells, load1_o, load1_p, loadG_o, loadG_p, store1_o, storeG_o, lenS_nils, lenS_sle, lenS_p, lenS_o, lenT_eq, idxS_p, idxS_o, idxT_eq, idxA_o, idxV1_eq, fld1_eq, fldG_eq, extA_eq, nilCk_o, nilCk_p, strAdd_eq, strCmp_eq, withX_some, withX_none, iaddE, isubE, imulE, iltE, igtE, ileE, igeE, ineE, ibeqE, hget_top, hget_zero, hget_succ, set_top, plains_nil, plains_cons, plain_int, plain_bool, plain_str, plain_nils, plain_slp, plain_sle, plain_nil, plain_pto, plain_ptp, plain_slo, nb_agg, nb_int, nb_bool, nb_str, nb_slp, nb_nils, nb_sle, nb_slo, cells_agg, cells_int, cells_bool, cells_str, List.length_cons, List.length_nil, List.length_append, List.take_succ_cons, List.take_zero, List.drop_succ_cons, List.drop_zero, List.cons_append, List.nil_append, List.append_nil, List.drop_nil, List.take_nil, List.getElem?_cons_zero, List.getElem?_cons_succ, List.set_cons_zero, List.set_cons_succ, Nat.reduceAdd, Nat.reduceMul, Nat.reduceSub, Nat.reduceLeDiff, Nat.reduceEqDiff, Nat.reduceLT, Nat.zero_add, Nat.add_zero, decide_true, decide_false, Bool.and_true, Bool.true_and, Bool.and_false, Bool.false_and, Bool.not_true, Bool.not_false, Nat.le_refl, reduceIte, kPic_0_eq, kPic_1_eq, kPic_2_eq, kPic_3_eq, kPic_4_eq, kPic_5_eq, kPic_6_eq, kPic_7_eq, kPic_8_eq, kPic_9_eq, kPic_10_eq, kPic_11_eq, kPic_12_eq, kPic_13_eq, kPic_14_eq, kPic_15_eq, kPic_16_eq, kPic_17_eq, kPic_18_eq, kPic_19_eq, kPic_20_eq, kPic_21_eq, kPic_22_eq, kPic_23_eq, kPic_24_eq, kPic_25_eq, kPic_26_eq, kPic_27_eq, kPic_28_eq, kPic_29_eq, kPic_30_eq, kPic_31_eq, kPic_32_eq, kPic_33_eq, kPic_34_eq, kPic_35_eq, kPic_ret, kPic_nrm, d0]
  | cons v l ih =>
    intro i f r v7 v8 v21 v41 hl hi hf e
    obtain ⟨f, rfl⟩ : ∃ g, f = g + 1 := ⟨f - 1, by omega⟩
    obtain ⟨f, rfl⟩ : ∃ g, f = g + 1 := ⟨f - 1, by omega⟩
    have hlt : i < nk := by
      have := congrArg List.length hl
      rw [List.length_drop, List.length_take, Nat.min_eq_left hk, List.length_cons] at this
      omega
    have hv : kids[i]? = some v := by
      have := congrArg (·[0]?) hl
      simp only [List.getElem?_drop, Nat.add_zero, List.getElem?_cons_zero] at this
      rw [List.getElem?_take_of_lt hlt] at this
      exact this
    have hl' : (kids.take nk).drop (i + 1) = l := by rw [← List.drop_drop, hl]; rfl
    obtain ⟨k, rfl, e1⟩ := natV_some (show natV 9223372036854775807 v _ = some r from e)
    have d0 : decide ((i : Int) < (nk : Int)) = true := by rw [decide_eq_true_iff]; omega
    have hix : ∀ κ : Ka, idxS 1 (.slp kids nk) (.int 9223372036854775807 (i : Int)) H κ = κ (.ptp kids i) H := fun κ => by rw [idxS_p, bq_dec_pos hlt, Nat.mul_one]
    have hld : ∀ κ : Ka, load1 (.ptp kids i) H κ = κ (.int 9223372036854775807 (k : Int)) H := fun κ => by rw [load1_p, hv]; rfl
    have k0 : decide ((0 : Int) ≤ (k : Int)) = true := by rw [decide_eq_true_iff]; omega
    have w : wrapA 9223372036854775807 ((i : Int) + 1) = ((i + 1 : Nat) : Int) := by rw [wrapA_i64 (by omega) (by omega)]; push_cast; rfl
    have go : ∀ v41', pickL inf ni c l (i + 1) = some r → (rl (C0 mx) (f + 1 + 1)).lp (kPic_26 (C0 mx)) ⟨kPic_T nd (.slp inf ni) (.int 255 (c : Int)) v3 v6 v7 v8 v16 (.slp kids nk) (.int 9223372036854775807 (nk : Int)) (.int 9223372036854775807 (i : Int)) v21 v41, H⟩ =
        (rl (C0 mx) (f + 1)).lp (kPic_26 (C0 mx)) ⟨kPic_T nd (.slp inf ni) (.int 255 (c : Int)) v3 v6 (.int 9223372036854775807 (i : Int)) (.int 9223372036854775807 (k : Int)) v16 (.slp kids nk) (.int 9223372036854775807 (nk : Int)) (.int 9223372036854775807 ((i + 1 : Nat) : Int)) (.bool true) v41', H⟩ → _ := fun v41' e2 hs => by
      have := ih (i + 1) (f + 1) r (.int 9223372036854775807 (i : Int)) (.int 9223372036854775807 (k : Int)) (.bool true) v41' hl' (by omega) (by simp at hf; omega) e2
      rw [← hs] at this
      exact this
    cases hb : Nat.blt k ni with
    | false =>
      rw [hb, bq_false] at e1
      have kn : decide ((k : Int) < (ni : Int)) = false := by rw [nblt] at hb; have := of_decide_eq_false hb; rw [decide_eq_false_iff_not]; omega
      refine go (.bool false) e1 ?_
      rw [rl_lp]
      simp only [guardC_b, guardC_u, beqB_tt, beqB_tf, beqB_ft, beqB_ff, min_eq, max_eq, vhO_kVH, ckN_eq, ckE_eq, List.length_set, ckX_same, bldS_int2, lt_agg, lt_tup, lt_int, lt_bool, lt_str, lt_nils, lt_sle, lt_nil, lt_slp, lt_ptp, kNrm_st, obindS, obindN, kThen_nrm, kThen_ret, kThen_exit, kOut_nrm, kOut_ret, kOut_exit, kIf_b, bqT, bqF, moveA_eq, pickA_eq, boxA_eq, newA_eq, cmp_eq, arith_eq, remA_eq, quoA_eq, notA_eq, negA_eq, cvI_eq, moveP_o, moveP_p, blkC_cells, load1_o, load1_p, loadG_o, loadG_p, store1_o, storeG_o, lenS_nils, lenS_sle, lenS_p, lenS_o, lenT_eq, idxS_p, idxS_o, idxT_eq, idxA_o, idxV1_eq, fld1_eq, fldG_eq, extA_eq, nilCk_o, nilCk_p, strAdd_eq, strCmp_eq, withX_some, withX_none, iaddE, isubE, imulE, iltE, igtE, ileE, igeE, ineE, ibeqE, hget_top, hget_zero, hget_succ, set_top, plains_nil, plains_cons, plain_int, plain_bool, plain_str, plain_nils, plain_slp, plain_sle, plain_nil, plain_pto, plain_ptp, plain_slo, nb_agg, nb_int, nb_bool, nb_str, nb_slp, nb_nils, nb_sle, nb_slo, cells_agg, cells_int, cells_bool, cells_str, List.length_cons, List.length_nil, List.length_append, List.take_succ_cons, List.take_zero, List.drop_succ_cons, List.drop_zero, List.cons_append, List.nil_append, List.append_nil, List.drop_nil, List.take_nil, List.getElem?_cons_zero, List.getElem?_cons_succ, List.set_cons_zero, List.set_cons_succ, Nat.reduceAdd, Nat.reduceMul, Nat.reduceSub, Nat.reduceLeDiff, Nat.reduceEqDiff, Nat.reduceLT, Nat.zero_add, Nat.add_zero, decide_true, decide_false, Bool.and_true, Bool.true_and, Bool.and_false, Bool.false_and, Bool.not_true, Bool.not_false, Nat.le_refl, reduceIte, kPic_0_eq, kPic_1_eq, kPic_2_eq, kPic_3_eq, kPic_4_eq, kPic_5_eq, kPic_6_eq, kPic_7_eq, kPic_8_eq, kPic_9_eq, kPic_10_eq, kPic_11_eq, kPic_12_eq, kPic_13_eq, kPic_14_eq, kPic_15_eq, kPic_16_eq, kPic_17_eq, kPic_18_eq, kPic_19_eq, kPic_20_eq, kPic_21_eq, kPic_22_eq, kPic_23_eq, kPic_24_eq, kPic_25_eq, kPic_26_eq, kPic_27_eq, kPic_28_eq, kPic_29_eq, kPic_30_eq, kPic_31_eq, kPic_32_eq, kPic_33_eq, kPic_34_eq, kPic_35_eq, kPic_ret, kPic_nrm, -idxS_p, d0, hix, hld, k0, kn, w]
    | true =>
      rw [hb, bq_true] at e1
      have hkn : k < ni := by rw [nblt] at hb; exact of_decide_eq_true hb
      have kn : decide ((k : Int) < (ni : Int)) = true := by rw [decide_eq_true_iff]; omega
      obtain ⟨e2, e3⟩ := bq_some e1
      have hle : k * 6 + 4 ≤ inf.length := by rw [nble, flen_eq] at e2; exact of_decide_eq_true e2
      obtain ⟨wv, e4, e5⟩ := obind_eq_some e3
      obtain ⟨q, rfl, e6⟩ := natV_some e5
      obtain ⟨e7, e8⟩ := bq_some e6
      rw [Bool.and_eq_true, ftake_eq, fdrop_eq] at e7
      have hq : q ≤ 18446744073709551615 := Nat.le_of_ble_eq_true e7.1
      have hpure : ltL 0 [.agg ((inf.drop (k * 6)).take 4), .int 255 (c : Int)] = true := by
        show and (ltL 0 ((inf.drop (k * 6)).take 4)) true = true
        rw [show ltL 0 ((inf.drop (k * 6)).take 4) = true from e7.2]; rfl
      rw [fget_eq] at e4
      have e4 : inf[k * 6 + c / 64]? = some (.int 18446744073709551615 (q : Int)) := e4
      have hws : ((inf.drop (k * 6)).take 4)[c / 64]? = some (.int 18446744073709551615 (q : Int)) := by
        rw [List.getElem?_take_of_lt (by omega), List.getElem?_drop]; exact e4
      have hix2 : ∀ κ : Ka, idxS 6 (.slp inf ni) (.int 9223372036854775807 (k : Int)) H κ = κ (.ptp inf (k * 6)) H := fun κ => by rw [idxS_p, bq_dec_pos hkn]
      have hlg : ∀ κ : Ka, loadG 4 (.ptp inf (k * 6)) H κ = κ (.agg ((inf.drop (k * 6)).take 4)) H := fun κ => by rw [loadG_p, bq_dec_pos hle]
      have hhas := fun h => callA_pure (C := C0 mx) (run := (rl (C0 mx) (f + 1)).run) (h := h) (by kernel_rfl) hpure (by kernel_rfl) (has_run mx f (ws := (inf.drop (k * 6)).take 4) (by simp; omega) hc hws hq []) (by rfl)
      cases hbit : wbit q (c % 64) with
      | false =>
        rw [hbit] at hhas
        have e8 : bq (wbit q (c % 64)) (some (.ofNat i)) (pickL inf ni c l (Nat.succ i)) = some r := e8
        rw [hbit, bq_false] at e8
        refine go (.bool false) e8 ?_
        rw [rl_lp]
        simp only [guardC_b, guardC_u, beqB_tt, beqB_tf, beqB_ft, beqB_ff, min_eq, max_eq, vhO_kVH, ckN_eq, ckE_eq, List.length_set, ckX_same, bldS_int2, lt_agg, lt_tup, lt_int, lt_bool, lt_str, lt_nils, lt_sle, lt_nil, lt_slp, lt_ptp, kNrm_st, obindS, obindN, kThen_nrm, kThen_ret, kThen_exit, kOut_nrm, kOut_ret, kOut_exit, kIf_b, bqT, bqF, moveA_eq, pickA_eq, boxA_eq, newA_eq, cmp_eq, arith_eq, remA_eq, quoA_eq, notA_eq, negA_eq, cvI_eq, moveP_o, moveP_p, blkC_cells, load1_o, load1_p, loadG_o, loadG_p, store1_o, storeG_o, lenS_nils, lenS_sle, lenS_p, lenS_o, lenT_eq, idxS_p, idxS_o, idxT_eq, idxA_o, idxV1_eq, fld1_eq, fldG_eq, extA_eq, nilCk_o, nilCk_p, strAdd_eq, strCmp_eq, withX_some, withX_none, iaddE, isubE, imulE, iltE, igtE, ileE, igeE, ineE, ibeqE, hget_top, hget_zero, hget_succ, set_top, plains_nil, plains_cons, plain_int, plain_bool, plain_str, plain_nils, plain_slp, plain_sle, plain_nil, plain_pto, plain_ptp, plain_slo, nb_agg, nb_int, nb_bool, nb_str, nb_slp, nb_nils, nb_sle, nb_slo, cells_agg, cells_int, cells_bool, cells_str, List.length_cons, List.length_nil, List.length_append, List.take_succ_cons, List.take_zero, List.drop_succ_cons, List.drop_zero, List.cons_append, List.nil_append, List.append_nil, List.drop_nil, List.take_nil, List.getElem?_cons_zero, List.getElem?_cons_succ, List.set_cons_zero, List.set_cons_succ, Nat.reduceAdd, Nat.reduceMul, Nat.reduceSub, Nat.reduceLeDiff, Nat.reduceEqDiff, Nat.reduceLT, Nat.zero_add, Nat.add_zero, decide_true, decide_false, Bool.and_true, Bool.true_and, Bool.and_false, Bool.false_and, Bool.not_true, Bool.not_false, Nat.le_refl, reduceIte, kPic_0_eq, kPic_1_eq, kPic_2_eq, kPic_3_eq, kPic_4_eq, kPic_5_eq, kPic_6_eq, kPic_7_eq, kPic_8_eq, kPic_9_eq, kPic_10_eq, kPic_11_eq, kPic_12_eq, kPic_13_eq, kPic_14_eq, kPic_15_eq, kPic_16_eq, kPic_17_eq, kPic_18_eq, kPic_19_eq, kPic_20_eq, kPic_21_eq, kPic_22_eq, kPic_23_eq, kPic_24_eq, kPic_25_eq, kPic_26_eq, kPic_27_eq, kPic_28_eq, kPic_29_eq, kPic_30_eq, kPic_31_eq, kPic_32_eq, kPic_33_eq, kPic_34_eq, kPic_35_eq, kPic_ret, kPic_nrm, -idxS_p, -loadG_p, d0, hix, hld, k0, kn, hix2, hlg, hhas, w]
      | true =>
        left
        rw [hbit] at hhas
        have e8 : bq (wbit q (c % 64)) (some (.ofNat i)) (pickL inf ni c l (Nat.succ i)) = some r := e8
        rw [hbit, bq_true] at e8
        cases e8
        apply Exists.intro
        refine ⟨?_, ?_⟩
        · rw [rl_lp]
          simp only [guardC_b, guardC_u, beqB_tt, beqB_tf, beqB_ft, beqB_ff, min_eq, max_eq, vhO_kVH, ckN_eq, ckE_eq, List.length_set, ckX_same, bldS_int2, lt_agg, lt_tup, lt_int, lt_bool, lt_str, lt_nils, lt_sle, lt_nil, lt_slp, lt_ptp, kNrm_st, obindS, obindN, kThen_nrm, kThen_ret, kThen_exit, kOut_nrm, kOut_ret, kOut_exit, kIf_b, bqT, bqF, moveA_eq, pickA_eq, boxA_eq, newA_eq, cmp_eq, arith_eq, remA_eq, quoA_eq, notA_eq, negA_eq, cvI_eq, moveP_o, moveP_p, blkC_cells, load1_o, load1_p, loadG_o, loadG_p, store1_o, storeG_o, lenS_nils, lenS_sle, lenS_p, lenS_o, lenT_eq, idxS_p, idxS_o, idxT_eq, idxA_o, idxV1_eq, fld1_eq, fldG_eq, extA_eq, nilCk_o, nilCk_p, strAdd_eq, strCmp_eq, withX_some, withX_none, iaddE, isubE, imulE, iltE, igtE, ileE, igeE, ineE, ibeqE, hget_top, hget_zero, hget_succ, set_top, plains_nil, plains_cons, plain_int, plain_bool, plain_str, plain_nils, plain_slp, plain_sle, plain_nil, plain_pto, plain_ptp, plain_slo, nb_agg, nb_int, nb_bool, nb_str, nb_slp, nb_nils, nb_sle, nb_slo, cells_agg, cells_int, cells_bool, cells_str, List.length_cons, List.length_nil, List.length_append, List.take_succ_cons, List.take_zero, List.drop_succ_cons, List.drop_zero, List.cons_append, List.nil_append, List.append_nil, List.drop_nil, List.take_nil, List.getElem?_cons_zero, List.getElem?_cons_succ, List.set_cons_zero, List.set_cons_succ, Nat.reduceAdd, Nat.reduceMul, Nat.reduceSub, Nat.reduceLeDiff, Nat.reduceEqDiff, Nat.reduceLT, Nat.zero_add, Nat.add_zero, decide_true, decide_false, Bool.and_true, Bool.true_and, Bool.and_false, Bool.false_and, Bool.not_true, Bool.not_false, Nat.le_refl, reduceIte, kPic_0_eq, kPic_1_eq, kPic_2_eq, kPic_3_eq, kPic_4_eq, kPic_5_eq, kPic_6_eq, kPic_7_eq, kPic_8_eq, kPic_9_eq, kPic_10_eq, kPic_11_eq, kPic_12_eq, kPic_13_eq, kPic_14_eq, kPic_15_eq, kPic_16_eq, kPic_17_eq, kPic_18_eq, kPic_19_eq, kPic_20_eq, kPic_21_eq, kPic_22_eq, kPic_23_eq, kPic_24_eq, kPic_25_eq, kPic_26_eq, kPic_27_eq, kPic_28_eq, kPic_29_eq, kPic_30_eq, kPic_31_eq, kPic_32_eq, kPic_33_eq, kPic_34_eq, kPic_35_eq, kPic_ret, kPic_nrm, -idxS_p, -loadG_p, d0, hix, hld, k0, kn, hix2, hlg, hhas, w]
          rfl
        · exact kPic_ret ..
theorem pick_run (mx : Int) {args : List AV} {h h' : AH} {r : AV} (e : pickG args h = some (r, h')) : h' = h ∧ r.lt 0 = true ∧ ltL 0 args = true ∧ ∃ n h1, runN (C0 mx) n 312 args [] = some (r, h1) := by
  unfold pickG at e
  split at e
  · rename_i nd inf ni c
    obtain ⟨hc, e⟩ := bq_some e
    rw [Bool.and_eq_true, nblt] at hc
    obtain ⟨hc, hnd⟩ := hc
    have hc := of_decide_eq_true hc
    split at e
    · rename_i k kids nk h0 h11
      obtain ⟨g, e⟩ := bq_some e
      obtain ⟨i, e1, e2⟩ := obind_eq_some e
      cases e2
      rw [Bool.and_eq_true, Bool.and_eq_true, Bool.or_eq_true, nble, nble, flen_eq] at g
      obtain ⟨gk, g1, g2⟩ := g
      have g1 := of_decide_eq_true g1
      have g2 := of_decide_eq_true g2
      rw [fget_eq] at h0 h11
      rw [ftake_eq] at e1
      refine ⟨rfl, rfl, by show and (ltL 0 nd) (and true (and true true)) = true; rw [hnd]; rfl, nk + 10, ?_⟩
      have hll : (kids.take nk).length = nk := by rw [List.length_take]; omega
      have hlp := pick_loop mx (inf := inf) (kids := kids) (nd := .agg nd) (ni := ni) (nk := nk) hc g1 g2 [some (.cells nd (128 + 1))] (.pto 0 0) (.int 9223372036854775807 0) (.bool false) (kids.take nk) 0 (nk + 9) i .bot .bot .bot .bot rfl (Nat.zero_le _) (by omega) e1
      rw [show ((0 : Nat) : Int) = 0 from rfl] at hlp
      have hk : (k : Int) = 10 ∨ (k : Int) = 11 := by
        rcases gk with g | g
        · left; rw [Nat.eq_of_beq_eq_true g]; rfl
        · right; rw [Nat.eq_of_beq_eq_true g]; rfl
      have h0 : nd[0]? = some (.int 9223372036854775807 (k : Int)) := h0
      have a1 : decide ((10 : Int) ≠ 10) = false := by decide
      have a2 : decide ((11 : Int) ≠ 10) = true := by decide
      have a3 : decide ((11 : Int) ≠ 11) = false := by decide
      have start : (rl (C0 mx) (nk + 10)).run 312 [.agg nd, .slp inf ni, .int 255 (c : Int)] [] = obind (obind (obind ((rl (C0 mx) (nk + 9)).lp (kPic_26 (C0 mx)) ⟨kPic_T (.agg nd) (.slp inf ni) (.int 255 (c : Int)) (.pto 0 0) (.int 9223372036854775807 0) .bot .bot (.bool false) (.slp kids nk) (.int 9223372036854775807 (nk : Int)) (.int 9223372036854775807 0) .bot .bot, [some (.cells nd (128 + 1))]⟩) (kOut 0)) (kThen (kx (C0 mx) (rl (C0 mx) (nk + 9)).run (rl (C0 mx) (nk + 9)).lp (kPic_32 (C0 mx))))) (endA (C0 mx) [.tmp 6]) := by
        rw [rl_run, kPic_run _ _ _ _ _ _ _ (by kernel_rfl) (kPic_fk mx)]
        rcases hk with hk | hk
        · rw [hk] at h0
          simp only [guardC_b, guardC_u, beqB_tt, beqB_tf, beqB_ft, beqB_ff, min_eq, max_eq, vhO_kVH, ckN_eq, ckE_eq, List.length_set, ckX_same, bldS_int2, lt_agg, lt_tup, lt_int, lt_bool, lt_str, lt_nils, lt_sle, lt_nil, lt_slp, lt_ptp, kNrm_st, obindS, obindN, kThen_nrm, kThen_ret, kThen_exit, kOut_nrm, kOut_ret, kOut_exit, kIf_b, bqT, bqF, moveA_eq, pickA_eq, boxA_eq, newA_eq, cmp_eq, arith_eq, remA_eq, quoA_eq, notA_eq, negA_eq, cvI_eq, moveP_o, moveP_p, blkC_cells, load1_o, load1_p, loadG_o, loadG_p, store1_o, storeG_o, lenS_nils, lenS_sle, lenS_p, lenS_o, lenT_eq, idxS_p, idxS_o, idxT_eq, idxA_o, idxV1_eq, fld1_eq, fldG_eq, extA_eq, nilCk_o, nilCk_p, strAdd_eq, strCmp_eq, withX_some, withX_none, iaddE, isubE, imulE, iltE, igtE, ileE, igeE, ineE, ibeqE, hget_top, hget_zero, hget_succ, set_top, plains_nil, plains_cons, plain_int, plain_bool, plain_str, plain_nils, plain_slp, plain_sle, plain_nil, plain_pto, plain_ptp, plain_slo, nb_agg, nb_int, nb_bool, nb_str, nb_slp, nb_nils, nb_sle, nb_slo, cells_agg, cells_int, cells_bool, cells_str, List.length_cons, List.length_nil, List.length_append, List.take_succ_cons, List.take_zero, List.drop_succ_cons, List.drop_zero, List.cons_append, List.nil_append, List.append_nil, List.drop_nil, List.take_nil, List.getElem?_cons_zero, List.getElem?_cons_succ, List.set_cons_zero, List.set_cons_succ, Nat.reduceAdd, Nat.reduceMul, Nat.reduceSub, Nat.reduceLeDiff, Nat.reduceEqDiff, Nat.reduceLT, Nat.zero_add, Nat.add_zero, decide_true, decide_false, Bool.and_true, Bool.true_and, Bool.and_false, Bool.false_and, Bool.not_true, Bool.not_false, Nat.le_refl, reduceIte, kPic_0_eq, kPic_1_eq, kPic_2_eq, kPic_3_eq, kPic_4_eq, kPic_5_eq, kPic_6_eq, kPic_7_eq, kPic_8_eq, kPic_9_eq, kPic_10_eq, kPic_11_eq, kPic_12_eq, kPic_13_eq, kPic_14_eq, kPic_15_eq, kPic_16_eq, kPic_17_eq, kPic_18_eq, kPic_19_eq, kPic_20_eq, kPic_21_eq, kPic_22_eq, kPic_23_eq, kPic_24_eq, kPic_25_eq, kPic_26_eq, kPic_27_eq, kPic_28_eq, kPic_29_eq, kPic_30_eq, kPic_31_eq, kPic_32_eq, kPic_33_eq, kPic_34_eq, kPic_35_eq, kPic_ret, kPic_nrm, -kPic_26_eq, -kPic_32_eq, h0, h11, a1]
        · rw [hk] at h0
          simp only [guardC_b, guardC_u, beqB_tt, beqB_tf, beqB_ft, beqB_ff, min_eq, max_eq, vhO_kVH, ckN_eq, ckE_eq, List.length_set, ckX_same, bldS_int2, lt_agg, lt_tup, lt_int, lt_bool, lt_str, lt_nils, lt_sle, lt_nil, lt_slp, lt_ptp, kNrm_st, obindS, obindN, kThen_nrm, kThen_ret, kThen_exit, kOut_nrm, kOut_ret, kOut_exit, kIf_b, bqT, bqF, moveA_eq, pickA_eq, boxA_eq, newA_eq, cmp_eq, arith_eq, remA_eq, quoA_eq, notA_eq, negA_eq, cvI_eq, moveP_o, moveP_p, blkC_cells, load1_o, load1_p, loadG_o, loadG_p, store1_o, storeG_o, lenS_nils, lenS_sle, lenS_p, lenS_o, lenT_eq, idxS_p, idxS_o, idxT_eq, idxA_o, idxV1_eq, fld1_eq, fldG_eq, extA_eq, nilCk_o, nilCk_p, strAdd_eq, strCmp_eq, withX_some, withX_none, iaddE, isubE, imulE, iltE, igtE, ileE, igeE, ineE, ibeqE, hget_top, hget_zero, hget_succ, set_top, plains_nil, plains_cons, plain_int, plain_bool, plain_str, plain_nils, plain_slp, plain_sle, plain_nil, plain_pto, plain_ptp, plain_slo, nb_agg, nb_int, nb_bool, nb_str, nb_slp, nb_nils, nb_sle, nb_slo, cells_agg, cells_int, cells_bool, cells_str, List.length_cons, List.length_nil, List.length_append, List.take_succ_cons, List.take_zero, List.drop_succ_cons, List.drop_zero, List.cons_append, List.nil_append, List.append_nil, List.drop_nil, List.take_nil, List.getElem?_cons_zero, List.getElem?_cons_succ, List.set_cons_zero, List.set_cons_succ, Nat.reduceAdd, Nat.reduceMul, Nat.reduceSub, Nat.reduceLeDiff, Nat.reduceEqDiff, Nat.reduceLT, Nat.zero_add, Nat.add_zero, decide_true, decide_false, Bool.and_true, Bool.true_and, Bool.and_false, Bool.false_and, Bool.not_true, Bool.not_false, Nat.le_refl, reduceIte, kPic_0_eq, kPic_1_eq, kPic_2_eq, kPic_3_eq, kPic_4_eq, kPic_5_eq, kPic_6_eq, kPic_7_eq, kPic_8_eq, kPic_9_eq, kPic_10_eq, kPic_11_eq, kPic_12_eq, kPic_13_eq, kPic_14_eq, kPic_15_eq, kPic_16_eq, kPic_17_eq, kPic_18_eq, kPic_19_eq, kPic_20_eq, kPic_21_eq, kPic_22_eq, kPic_23_eq, kPic_24_eq, kPic_25_eq, kPic_26_eq, kPic_27_eq, kPic_28_eq, kPic_29_eq, kPic_30_eq, kPic_31_eq, kPic_32_eq, kPic_33_eq, kPic_34_eq, kPic_35_eq, kPic_ret, kPic_nrm, -kPic_26_eq, -kPic_32_eq, h0, h11, a2, a3]
      rcases hlp with ⟨s, q1, q2⟩ | ⟨rfl, u7, u8, u20, u21, u41, q1⟩
      · apply Exists.intro
        show (rl (C0 mx) (nk + 10)).run _ _ _ = _
        refine start.trans ?_
        simp only [guardC_b, guardC_u, beqB_tt, beqB_tf, beqB_ft, beqB_ff, min_eq, max_eq, vhO_kVH, ckN_eq, ckE_eq, List.length_set, ckX_same, bldS_int2, lt_agg, lt_tup, lt_int, lt_bool, lt_str, lt_nils, lt_sle, lt_nil, lt_slp, lt_ptp, kNrm_st, obindS, obindN, kThen_nrm, kThen_ret, kThen_exit, kOut_nrm, kOut_ret, kOut_exit, kIf_b, bqT, bqF, moveA_eq, pickA_eq, boxA_eq, newA_eq, cmp_eq, arith_eq, remA_eq, quoA_eq, notA_eq, negA_eq, cvI_eq, moveP_o, moveP_p, blkC_cells, load1_o, load1_p, loadG_o, loadG_p, store1_o, storeG_o, lenS_nils, lenS_sle, lenS_p, lenS_o, lenT_eq, idxS_p, idxS_o, idxT_eq, idxA_o, idxV1_eq, fld1_eq, fldG_eq, extA_eq, nilCk_o, nilCk_p, strAdd_eq, strCmp_eq, withX_some, withX_none, iaddE, isubE, imulE, iltE, igtE, ileE, igeE, ineE, ibeqE, hget_top, hget_zero, hget_succ, set_top, plains_nil, plains_cons, plain_int, plain_bool, plain_str, plain_nils, plain_slp, plain_sle, plain_nil, plain_pto, plain_ptp, plain_slo, nb_agg, nb_int, nb_bool, nb_str, nb_slp, nb_nils, nb_sle, nb_slo, cells_agg, cells_int, cells_bool, cells_str, List.length_cons, List.length_nil, List.length_append, List.take_succ_cons, List.take_zero, List.drop_succ_cons, List.drop_zero, List.cons_append, List.nil_append, List.append_nil, List.drop_nil, List.take_nil, List.getElem?_cons_zero, List.getElem?_cons_succ, List.set_cons_zero, List.set_cons_succ, Nat.reduceAdd, Nat.reduceMul, Nat.reduceSub, Nat.reduceLeDiff, Nat.reduceEqDiff, Nat.reduceLT, Nat.zero_add, Nat.add_zero, decide_true, decide_false, Bool.and_true, Bool.true_and, Bool.and_false, Bool.false_and, Bool.not_true, Bool.not_false, Nat.le_refl, reduceIte, q1, q2]
        rfl
      · apply Exists.intro
        show (rl (C0 mx) (nk + 10)).run _ _ _ = _
        refine start.trans ?_
        simp only [guardC_b, guardC_u, beqB_tt, beqB_tf, beqB_ft, beqB_ff, min_eq, max_eq, vhO_kVH, ckN_eq, ckE_eq, List.length_set, ckX_same, bldS_int2, lt_agg, lt_tup, lt_int, lt_bool, lt_str, lt_nils, lt_sle, lt_nil, lt_slp, lt_ptp, kNrm_st, obindS, obindN, kThen_nrm, kThen_ret, kThen_exit, kOut_nrm, kOut_ret, kOut_exit, kIf_b, bqT, bqF, moveA_eq, pickA_eq, boxA_eq, newA_eq, cmp_eq, arith_eq, remA_eq, quoA_eq, notA_eq, negA_eq, cvI_eq, moveP_o, moveP_p, blkC_cells, load1_o, load1_p, loadG_o, loadG_p, store1_o, storeG_o, lenS_nils, lenS_sle, lenS_p, lenS_o, lenT_eq, idxS_p, idxS_o, idxT_eq, idxA_o, idxV1_eq, fld1_eq, fldG_eq, extA_eq, nilCk_o, nilCk_p, strAdd_eq, strCmp_eq, withX_some, withX_none, iaddE, isubE, imulE, iltE, igtE, ileE, igeE, ineE, ibeqE, hget_top, hget_zero, hget_succ, set_top, plains_nil, plains_cons, plain_int, plain_bool, plain_str, plain_nils, plain_slp, plain_sle, plain_nil, plain_pto, plain_ptp, plain_slo, nb_agg, nb_int, nb_bool, nb_str, nb_slp, nb_nils, nb_sle, nb_slo, cells_agg, cells_int, cells_bool, cells_str, List.length_cons, List.length_nil, List.length_append, List.take_succ_cons, List.take_zero, List.drop_succ_cons, List.drop_zero, List.cons_append, List.nil_append, List.append_nil, List.drop_nil, List.take_nil, List.getElem?_cons_zero, List.getElem?_cons_succ, List.set_cons_zero, List.set_cons_succ, Nat.reduceAdd, Nat.reduceMul, Nat.reduceSub, Nat.reduceLeDiff, Nat.reduceEqDiff, Nat.reduceLT, Nat.zero_add, Nat.add_zero, decide_true, decide_false, Bool.and_true, Bool.true_and, Bool.and_false, Bool.false_and, Bool.not_true, Bool.not_false, Nat.le_refl, reduceIte, kPic_0_eq, kPic_1_eq, kPic_2_eq, kPic_3_eq, kPic_4_eq, kPic_5_eq, kPic_6_eq, kPic_7_eq, kPic_8_eq, kPic_9_eq, kPic_10_eq, kPic_11_eq, kPic_12_eq, kPic_13_eq, kPic_14_eq, kPic_15_eq, kPic_16_eq, kPic_17_eq, kPic_18_eq, kPic_19_eq, kPic_20_eq, kPic_21_eq, kPic_22_eq, kPic_23_eq, kPic_24_eq, kPic_25_eq, kPic_26_eq, kPic_27_eq, kPic_28_eq, kPic_29_eq, kPic_30_eq, kPic_31_eq, kPic_32_eq, kPic_33_eq, kPic_34_eq, kPic_35_eq, kPic_ret, kPic_nrm, -kPic_26_eq, q1]
        rfl
    · cases e
  · cases e
/-- It answers so wherever it is asked. -/
theorem pick_at {mx : Int} {args : List AV} {h h' : AH} {r : AV} (e : pickG args h = some (r, h')) : RunAt Tryz.prog (C0 mx) 312 args h r h' := by
  obtain ⟨rfl, hl, hp, n, h1, e1⟩ := pick_run mx e
  obtain ⟨q1, q2⟩ := runN_ok c0_ok n _ _ _ _ _ e1
  refine ⟨q1, fun ok w ρ us I hv => ?_⟩
  have hv0 : VL ok w args ρ0 us := VL.names (k := 0) args (fun n _ hn => absurd hn (Nat.not_lt_zero n)) hp hv
  refine (q2 ok w ρ0 us I.own hv0).mono fun en w' => ?_
  rintro ⟨u, ok', ρ', rfl, E, I', hv'⟩
  obtain ⟨E2, I2⟩ := own_ext I E I' (fun _ h => h) (fun _ h => .inl h)
  exact ⟨u, ok', ρ, rfl, E2, I2, V.names (k := 0) r (fun n _ hn => absurd hn (Nat.not_lt_zero n)) hl hv'⟩
/-- The context with it opened. -/
noncomputable def C1 (mx : Int) : Cx := (C0 mx).opened 312 pickG
theorem c1_ok {mx : Int} : CxOk Tryz.prog (C1 mx) := CxOk.opened c0_ok fun _ _ _ _ e => pick_at e
end Go.Proofs.YtgjoogfoeomcdaaGreatDoor
