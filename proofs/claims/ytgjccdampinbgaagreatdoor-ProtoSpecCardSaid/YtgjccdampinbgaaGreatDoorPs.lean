/- The law ProtoSpec: its run. The functions' equations are printed by a program. -/
import Derived.Test.YtgjccdampinbgaaGreatDoorMF
import Derived.Test.YtgjccdampinbgaaGreatDoorMe
import Derived.Test.YtgjccdampinbgaaGreatDoorME
namespace Go.Proofs.YtgjccdampinbgaaGreatDoor
set_option linter.unusedSimpArgs false
set_option linter.unusedVariables false
set_option linter.unnecessarySimpa false
noncomputable section
/-- The context in which the head is told ahead. -/
def CL (mx : Int) : Cx := (C0 mx).told meT36
/- guipure/guipurelaw28.ProtoSpec -/
def kLaw_T (v0 v2 v3 v4 v6 v34 : AV) : Tm := (.nd 4 (.nd 2 (.lf 0 v0) (.nd 3 (.lf 2 v2) (.lf 3 v3))) (.nd 6 (.lf 4 v4) (.nd 34 (.lf 6 v6) (.lf 34 v34))))
section
variable (C : Cx) (run : Run) (lp : Lp) (s : St) (h : AH) (v0 v2 v3 v4 v6 v34 : AV)
def kLaw_0 (C : Cx) : K := .reg [.mk (o1 moveA (.cst (.bool false)))] [(2, 0)]
theorem kLaw_0_eq : kx C run lp (kLaw_0 C) ⟨kLaw_T v0 v2 v3 v4 v6 v34, h⟩ = kNrm (moveA (.bool false) h (fun a0 h => some (.st (kLaw_T v0 a0 v3 v4 v6 v34) h))) := (rfl)
def kLaw_1 (C : Cx) : K := .reg [.mk (oCallF 5 []), .mk (o1 notA (.st 0))] [(6, 0)]
theorem kLaw_1_eq : kx C run lp (kLaw_1 C) ⟨kLaw_T v0 v2 v3 v4 v6 v34, h⟩ = kNrm (withX (fun a0 h => notA a0 h (fun a1 h => some (.st (kLaw_T v0 v2 v3 v4 a1 v34) h))) (callA C run 5 [] h)) := (rfl)
def kLaw_2 (C : Cx) : K := .reg [.mk (o1 moveA (.cst (.bool false)))] [(2, 0)]
theorem kLaw_2_eq : kx C run lp (kLaw_2 C) ⟨kLaw_T v0 v2 v3 v4 v6 v34, h⟩ = kNrm (moveA (.bool false) h (fun a0 h => some (.st (kLaw_T v0 a0 v3 v4 v6 v34) h))) := (rfl)
def kLaw_3 (_ : Cx) : K := .ex .ret
theorem kLaw_3_eq : kx C run lp (kLaw_3 C) s = some (.ret, s) := (rfl)
def kLaw_4 (C : Cx) : K := .seq (kLaw_2 C) (kLaw_3 C)
theorem kLaw_4_eq : kx C run lp (kLaw_4 C) s = obind (kx C run lp (kLaw_2 C) s) (kThen (kx C run lp (kLaw_3 C))) := (rfl)
def kLaw_5 (_ : Cx) : K := .skip
theorem kLaw_5_eq : kx C run lp (kLaw_5 C) s = some (.nrm, s) := (rfl)
def kLaw_6 (C : Cx) : K := .cond (.tr 6) (kLaw_4 C) (kLaw_5 C)
theorem kLaw_6_eq : kx C run lp (kLaw_6 C) ⟨kLaw_T v0 v2 v3 v4 v6 v34, h⟩ = kIf v6 (kx C run lp (kLaw_4 C)) (kx C run lp (kLaw_5 C)) ⟨kLaw_T v0 v2 v3 v4 v6 v34, h⟩ := (rfl)
def kLaw_7 (C : Cx) : K := .seq (kLaw_1 C) (kLaw_6 C)
theorem kLaw_7_eq : kx C run lp (kLaw_7 C) s = obind (kx C run lp (kLaw_1 C) s) (kThen (kx C run lp (kLaw_6 C))) := (rfl)
def kLaw_8 (C : Cx) : K := .reg [.mk (oCallF 9 []), .mk (oAlloc 39 [.nils, .nils]), .mk (o2 (storeG 2) (.st 0) (.st 1))] [(3, 1)]
theorem kLaw_8_eq : kx C run lp (kLaw_8 C) ⟨kLaw_T v0 v2 v3 v4 v6 v34, h⟩ = kNrm (withX (fun a0 h => newA h (.cells [.nils, .nils] 39) (fun a1 h => storeG 2 a1 a0 h (fun a2 h => some (.st (kLaw_T v0 v2 a1 v4 v6 v34) h)))) (callA C run 9 [] h)) := (rfl)
def kLaw_9 (C : Cx) : K := .reg [.mk (o1 moveA (.tr 0)), .mk (oBuild (placeOf C [(0, 3), (1, 3), (2, 27), (3, 23)]) [.int 9223372036854775807 0, .int 9223372036854775807 0, .int 18446744073709551615 0, .nils] [(2, (.st 0))]), .mk (oCallF 10 [(.st 0)]), .mk (o1 moveA (.st 0))] [(4, 0)]
theorem kLaw_9_eq : kx C run lp (kLaw_9 C) ⟨kLaw_T v0 v2 v3 v4 v6 v34, h⟩ = kNrm (moveA v0 h (fun a0 h => bldA (placeOf C [(0, 3), (1, 3), (2, 27), (3, 23)]) [.int 9223372036854775807 0, .int 9223372036854775807 0, .int 18446744073709551615 0, .nils] [(2, a0)] h (fun a1 h => withX (fun a2 h => moveA a2 h (fun a3 h => some (.st (kLaw_T v0 v2 v3 a3 v6 v34) h))) (callA C run 10 [a1] h)))) := (rfl)
def kLaw_10 (C : Cx) : K := .reg [.mk (o1 moveA (.tr 0)), .mk (o2 (remA) (.st 0) (.cst (.int 18446744073709551615 2))), .mk (o2 (cmp ibeq) (.st 0) (.cst (.int 18446744073709551615 0))), .mk (o1 moveA (.st 0)), .mk (guardA (.st 0) true ((o1 moveA (.tr 4)))), .mk (guardA (.st 1) true ((o1 moveA (.tr 0)))), .mk (guardA (.st 2) true ((o2 (quoA) (.st 0) (.cst (.int 18446744073709551615 2))))), .mk (guardA (.st 3) true ((o1 (cvI 9223372036854775807) (.st 0)))), .mk (guardA (.st 4) true ((o2 (cmp ine) (.st 3) (.st 0)))), .mk (o3 pickA (.st 5) (.st 0) (.cst (.bool false))), .mk (o1 moveA (.st 0)), .mk (guardA (.st 0) false ((o1 moveA (.tr 0)))), .mk (guardA (.st 1) false ((o2 (remA) (.st 0) (.cst (.int 18446744073709551615 2))))), .mk (guardA (.st 2) false ((o2 (cmp ibeq) (.st 0) (.cst (.int 18446744073709551615 1))))), .mk (guardA (.st 3) false ((o1 moveA (.st 0)))), .mk (guardA (.st 0) true ((o1 moveA (.tr 4)))), .mk (guardA (.st 1) true ((o1 moveA (.tr 0)))), .mk (guardA (.st 2) true ((o2 (quoA) (.st 0) (.cst (.int 18446744073709551615 2))))), .mk (guardA (.st 3) true ((o1 (cvI 9223372036854775807) (.st 0)))), .mk (guardA (.st 4) true ((o1 negA (.st 0)))), .mk (guardA (.st 5) true ((o2 (arith isub) (.st 0) (.cst (.int 9223372036854775807 1))))), .mk (guardA (.st 6) true ((o2 (cmp ine) (.st 5) (.st 0)))), .mk (guardA (.st 11) false ((o3 pickA (.st 7) (.st 0) (.cst (.bool false))))), .mk (o3 pickA (.st 12) (.cst (.bool true)) (.st 0))] [(34, 0)]
theorem kLaw_10_eq : kx C run lp (kLaw_10 C) ⟨kLaw_T v0 v2 v3 v4 v6 v34, h⟩ = kNrm (moveA v0 h (fun a0 h => remA a0 (.int 18446744073709551615 2) h (fun a1 h => cmp ibeq a1 (.int 18446744073709551615 0) h (fun a2 h => moveA a2 h (fun a3 h => guardC a3 true (fun κ => moveA v4 h (κ)) h (fun a4 h => guardC a3 true (fun κ => moveA v0 h (κ)) h (fun a5 h => guardC a3 true (fun κ => quoA a5 (.int 18446744073709551615 2) h (κ)) h (fun a6 h => guardC a3 true (fun κ => cvI 9223372036854775807 a6 h (κ)) h (fun a7 h => guardC a3 true (fun κ => cmp ine a4 a7 h (κ)) h (fun a8 h => pickA a3 a8 (.bool false) h (fun a9 h => moveA a9 h (fun a10 h => guardC a10 false (fun κ => moveA v0 h (κ)) h (fun a11 h => guardC a10 false (fun κ => remA a11 (.int 18446744073709551615 2) h (κ)) h (fun a12 h => guardC a10 false (fun κ => cmp ibeq a12 (.int 18446744073709551615 1) h (κ)) h (fun a13 h => guardC a10 false (fun κ => moveA a13 h (κ)) h (fun a14 h => guardC a14 true (fun κ => moveA v4 h (κ)) h (fun a15 h => guardC a14 true (fun κ => moveA v0 h (κ)) h (fun a16 h => guardC a14 true (fun κ => quoA a16 (.int 18446744073709551615 2) h (κ)) h (fun a17 h => guardC a14 true (fun κ => cvI 9223372036854775807 a17 h (κ)) h (fun a18 h => guardC a14 true (fun κ => negA a18 h (κ)) h (fun a19 h => guardC a14 true (fun κ => arith isub a19 (.int 9223372036854775807 1) h (κ)) h (fun a20 h => guardC a14 true (fun κ => cmp ine a15 a20 h (κ)) h (fun a21 h => guardC a10 false (fun κ => pickA a14 a21 (.bool false) h (κ)) h (fun a22 h => pickA a10 (.bool true) a22 h (fun a23 h => some (.st (kLaw_T v0 v2 v3 v4 v6 a23) h)))))))))))))))))))))))))) := by kernel_rfl
def kLaw_11 (C : Cx) : K := .reg [.mk (o1 moveA (.cst (.bool false)))] [(2, 0)]
theorem kLaw_11_eq : kx C run lp (kLaw_11 C) ⟨kLaw_T v0 v2 v3 v4 v6 v34, h⟩ = kNrm (moveA (.bool false) h (fun a0 h => some (.st (kLaw_T v0 a0 v3 v4 v6 v34) h))) := (rfl)
def kLaw_12 (_ : Cx) : K := .ex .ret
theorem kLaw_12_eq : kx C run lp (kLaw_12 C) s = some (.ret, s) := (rfl)
def kLaw_13 (C : Cx) : K := .seq (kLaw_11 C) (kLaw_12 C)
theorem kLaw_13_eq : kx C run lp (kLaw_13 C) s = obind (kx C run lp (kLaw_11 C) s) (kThen (kx C run lp (kLaw_12 C))) := (rfl)
def kLaw_14 (_ : Cx) : K := .skip
theorem kLaw_14_eq : kx C run lp (kLaw_14 C) s = some (.nrm, s) := (rfl)
def kLaw_15 (C : Cx) : K := .cond (.tr 34) (kLaw_13 C) (kLaw_14 C)
theorem kLaw_15_eq : kx C run lp (kLaw_15 C) ⟨kLaw_T v0 v2 v3 v4 v6 v34, h⟩ = kIf v34 (kx C run lp (kLaw_13 C)) (kx C run lp (kLaw_14 C)) ⟨kLaw_T v0 v2 v3 v4 v6 v34, h⟩ := (rfl)
def kLaw_16 (C : Cx) : K := .seq (kLaw_10 C) (kLaw_15 C)
theorem kLaw_16_eq : kx C run lp (kLaw_16 C) s = obind (kx C run lp (kLaw_10 C) s) (kThen (kx C run lp (kLaw_15 C))) := (rfl)
def kLaw_17 (C : Cx) : K := .reg [.mk (o1 (loadG 2) (.tr 3)), .mk (oCallF 11 [(.st 0)]), .mk (oBuild (placeOf C [(0, 25), (1, 3)]) [.int 9223372036854775807 0, .int 9223372036854775807 0] []), .mk (o2 (eqlA ⟨(.struct [(0, 25), (1, 3)]), 2, 16, [.int 9223372036854775807 0, .int 9223372036854775807 0], true, true⟩) (.st 1) (.st 0)), .mk (o1 moveA (.st 0)), .mk (guardA (.st 0) true ((o1 (loadG 2) (.tr 3)))), .mk (guardA (.st 1) true ((oCallF 12 [(.st 0)]))), .mk (guardA (.st 2) true ((o2 (cmp ibeq) (.st 0) (.cst (.int 9223372036854775807 5))))), .mk (o3 pickA (.st 3) (.st 0) (.cst (.bool false))), .mk (o1 moveA (.st 0))] [(2, 0)]
theorem kLaw_17_eq : kx C run lp (kLaw_17 C) ⟨kLaw_T v0 v2 v3 v4 v6 v34, h⟩ = kNrm (loadG 2 v3 h (fun a0 h => withX (fun a1 h => bldA (placeOf C [(0, 25), (1, 3)]) [.int 9223372036854775807 0, .int 9223372036854775807 0] [] h (fun a2 h => eqlA ⟨(.struct [(0, 25), (1, 3)]), 2, 16, [.int 9223372036854775807 0, .int 9223372036854775807 0], true, true⟩ a1 a2 h (fun a3 h => moveA a3 h (fun a4 h => guardC a4 true (fun κ => loadG 2 v3 h (κ)) h (fun a5 h => guardC a4 true (fun κ => withX (κ) (callA C run 12 [a5] h)) h (fun a6 h => guardC a4 true (fun κ => cmp ibeq a6 (.int 9223372036854775807 5) h (κ)) h (fun a7 h => pickA a4 a7 (.bool false) h (fun a8 h => moveA a8 h (fun a9 h => some (.st (kLaw_T v0 a9 v3 v4 v6 v34) h)))))))))) (callA C run 11 [a0] h))) := (rfl)
def kLaw_18 (_ : Cx) : K := .ex .ret
theorem kLaw_18_eq : kx C run lp (kLaw_18 C) s = some (.ret, s) := (rfl)
def kLaw_19 (C : Cx) : K := .seq (kLaw_17 C) (kLaw_18 C)
theorem kLaw_19_eq : kx C run lp (kLaw_19 C) s = obind (kx C run lp (kLaw_17 C) s) (kThen (kx C run lp (kLaw_18 C))) := (rfl)
def kLaw_20 (C : Cx) : K := .seq (kLaw_16 C) (kLaw_19 C)
theorem kLaw_20_eq : kx C run lp (kLaw_20 C) s = obind (kx C run lp (kLaw_16 C) s) (kThen (kx C run lp (kLaw_19 C))) := (rfl)
def kLaw_21 (C : Cx) : K := .seq (kLaw_9 C) (kLaw_20 C)
theorem kLaw_21_eq : kx C run lp (kLaw_21 C) s = obind (kx C run lp (kLaw_9 C) s) (kThen (kx C run lp (kLaw_20 C))) := (rfl)
def kLaw_22 (C : Cx) : K := .seq (kLaw_8 C) (kLaw_21 C)
theorem kLaw_22_eq : kx C run lp (kLaw_22 C) s = obind (kx C run lp (kLaw_8 C) s) (kThen (kx C run lp (kLaw_21 C))) := (rfl)
def kLaw_23 (C : Cx) : K := .seq (kLaw_7 C) (kLaw_22 C)
theorem kLaw_23_eq : kx C run lp (kLaw_23 C) s = obind (kx C run lp (kLaw_7 C) s) (kThen (kx C run lp (kLaw_22 C))) := (rfl)
def kLaw_24 (C : Cx) : K := .seq (kLaw_0 C) (kLaw_23 C)
theorem kLaw_24_eq : kx C run lp (kLaw_24 C) s = obind (kx C run lp (kLaw_0 C) s) (kThen (kx C run lp (kLaw_23 C))) := (rfl)
theorem kLaw_ret : endA C [.tmp 2] (.ret, ⟨kLaw_T v0 v2 v3 v4 v6 v34, h⟩) = some (v2, h) := (rfl)
theorem kLaw_nrm : endA C [.tmp 2] (.nrm, ⟨kLaw_T v0 v2 v3 v4 v6 v34, h⟩) = some (v2, h) := (rfl)
end
def kLaw_F (C : Cx) : FK := ⟨kLaw_24 C, [0, 2, 3, 4, 6, 34], 44, [.tmp 2]⟩
theorem kLaw_run (C : Cx) (run : Run) (lp : Lp) (x0 : AV) (h : AH) (ho : C.orc 4 = none) (hf : fkAt C 4 = some (kLaw_F C)) : runF C run lp 4 [x0] h = obind (kx C run lp (kLaw_24 C) ⟨kLaw_T x0 .bot .bot .bot .bot .bot, h⟩) (endA C [.tmp 2]) := by
  unfold runF; rw [ho, hf]; rfl
/- (guipure/proto.Field).Signed -/
def kSig_T (v0 v1 v2 : AV) : Tm := (.nd 1 (.lf 0 v0) (.nd 2 (.lf 1 v1) (.lf 2 v2)))
section
variable (C : Cx) (run : Run) (lp : Lp) (s : St) (h : AH) (v0 v1 v2 : AV)
def kSig_0 (C : Cx) : K := .reg [.mk (o1 (boxA 30) (.tr 0)), .mk (o1 moveA (.cst (.int 9223372036854775807 0)))] [(2, 0), (1, 1)]
theorem kSig_0_eq : kx C run lp (kSig_0 C) ⟨kSig_T v0 v1 v2, h⟩ = kNrm (boxA 30 v0 h (fun a0 h => moveA (.int 9223372036854775807 0) h (fun a1 h => some (.st (kSig_T v0 a0 a1) h)))) := (rfl)
def kSig_1 (C : Cx) : K := .reg [.mk (o1 (moveP 2) (.tr 1)), .mk (o1 load1 (.st 0)), .mk (oCallF 26 [(.st 0)]), .mk (o1 moveA (.st 0))] [(2, 0)]
theorem kSig_1_eq : kx C run lp (kSig_1 C) ⟨kSig_T v0 v1 v2, h⟩ = kNrm (moveP 2 v1 h (fun a0 h => load1 a0 h (fun a1 h => withX (fun a2 h => moveA a2 h (fun a3 h => some (.st (kSig_T v0 v1 a3) h))) (callA C run 26 [a1] h)))) := (rfl)
def kSig_2 (_ : Cx) : K := .ex .ret
theorem kSig_2_eq : kx C run lp (kSig_2 C) s = some (.ret, s) := (rfl)
def kSig_3 (C : Cx) : K := .seq (kSig_1 C) (kSig_2 C)
theorem kSig_3_eq : kx C run lp (kSig_3 C) s = obind (kx C run lp (kSig_1 C) s) (kThen (kx C run lp (kSig_2 C))) := (rfl)
def kSig_4 (C : Cx) : K := .seq (kSig_0 C) (kSig_3 C)
theorem kSig_4_eq : kx C run lp (kSig_4 C) s = obind (kx C run lp (kSig_0 C) s) (kThen (kx C run lp (kSig_3 C))) := (rfl)
theorem kSig_ret : endA C [.tmp 2] (.ret, ⟨kSig_T v0 v1 v2, h⟩) = some (v2, h) := (rfl)
theorem kSig_nrm : endA C [.tmp 2] (.nrm, ⟨kSig_T v0 v1 v2, h⟩) = some (v2, h) := (rfl)
end
def kSig_F (C : Cx) : FK := ⟨kSig_4 C, [0, 1, 2], 6, [.tmp 2]⟩
theorem kSig_run (C : Cx) (run : Run) (lp : Lp) (x0 : AV) (h : AH) (ho : C.orc 10 = none) (hf : fkAt C 10 = some (kSig_F C)) : runF C run lp 10 [x0] h = obind (kx C run lp (kSig_4 C) ⟨kSig_T x0 .bot .bot, h⟩) (endA C [.tmp 2]) := by
  unfold runF; rw [ho, hf]; rfl
/- guipure/leb.Unfold -/
def kUnf_T (v0 v2 : AV) : Tm := (.nd 2 (.lf 0 v0) (.lf 2 v2))
section
variable (C : Cx) (run : Run) (lp : Lp) (s : St) (h : AH) (v0 v2 : AV)
def kUnf_0 (C : Cx) : K := .reg [.mk (o1 moveA (.cst (.int 9223372036854775807 0)))] [(2, 0)]
theorem kUnf_0_eq : kx C run lp (kUnf_0 C) ⟨kUnf_T v0 v2, h⟩ = kNrm (moveA (.int 9223372036854775807 0) h (fun a0 h => some (.st (kUnf_T v0 a0) h))) := (rfl)
def kUnf_1 (C : Cx) : K := .reg [.mk (o1 moveA (.tr 0)), .mk (o2 (shrA 18446744073709551615 64) (.st 0) (.cst (.int 18446744073709551615 1))), .mk (o1 (cvI 9223372036854775807) (.st 0)), .mk (o1 moveA (.tr 0)), .mk (o2 (bitA 18446744073709551615 18446744073709551615 Nat.land) (.st 0) (.cst (.int 18446744073709551615 1))), .mk (o1 (cvI 9223372036854775807) (.st 0)), .mk (o1 negA (.st 0)), .mk (o2 (bitA 9223372036854775807 18446744073709551615 Nat.xor) (.st 4) (.st 0)), .mk (o1 moveA (.st 0))] [(2, 0)]
theorem kUnf_1_eq : kx C run lp (kUnf_1 C) ⟨kUnf_T v0 v2, h⟩ = kNrm (moveA v0 h (fun a0 h => shrA 18446744073709551615 64 a0 (.int 18446744073709551615 1) h (fun a1 h => cvI 9223372036854775807 a1 h (fun a2 h => moveA v0 h (fun a3 h => bitA 18446744073709551615 18446744073709551615 Nat.land a3 (.int 18446744073709551615 1) h (fun a4 h => cvI 9223372036854775807 a4 h (fun a5 h => negA a5 h (fun a6 h => bitA 9223372036854775807 18446744073709551615 Nat.xor a2 a6 h (fun a7 h => moveA a7 h (fun a8 h => some (.st (kUnf_T v0 a8) h))))))))))) := (rfl)
def kUnf_2 (_ : Cx) : K := .ex .ret
theorem kUnf_2_eq : kx C run lp (kUnf_2 C) s = some (.ret, s) := (rfl)
def kUnf_3 (C : Cx) : K := .seq (kUnf_1 C) (kUnf_2 C)
theorem kUnf_3_eq : kx C run lp (kUnf_3 C) s = obind (kx C run lp (kUnf_1 C) s) (kThen (kx C run lp (kUnf_2 C))) := (rfl)
def kUnf_4 (C : Cx) : K := .seq (kUnf_0 C) (kUnf_3 C)
theorem kUnf_4_eq : kx C run lp (kUnf_4 C) s = obind (kx C run lp (kUnf_0 C) s) (kThen (kx C run lp (kUnf_3 C))) := (rfl)
theorem kUnf_ret : endA C [.tmp 2] (.ret, ⟨kUnf_T v0 v2, h⟩) = some (v2, h) := (rfl)
theorem kUnf_nrm : endA C [.tmp 2] (.nrm, ⟨kUnf_T v0 v2, h⟩) = some (v2, h) := (rfl)
end
def kUnf_F (C : Cx) : FK := ⟨kUnf_4 C, [0, 2], 11, [.tmp 2]⟩
theorem kUnf_run (C : Cx) (run : Run) (lp : Lp) (x0 : AV) (h : AH) (ho : C.orc 26 = none) (hf : fkAt C 26 = some (kUnf_F C)) : runF C run lp 26 [x0] h = obind (kx C run lp (kUnf_4 C) ⟨kUnf_T x0 .bot, h⟩) (endA C [.tmp 2]) := by
  unfold runF; rw [ho, hf]; rfl

theorem kLaw_fk (mx : Int) : fkAt (CL mx) 4 = some (kLaw_F (CL mx)) := by kernel_rfl
theorem kSig_fk (mx : Int) : fkAt (CL mx) 10 = some (kSig_F (CL mx)) := by kernel_rfl
theorem kUnf_fk (mx : Int) : fkAt (CL mx) 26 = some (kUnf_F (CL mx)) := by kernel_rfl
/-- A number with its sign unfolded. -/
def unf (n : Nat) : Int := if n % 2 = 0 then ((n / 2 : Nat) : Int) else -((n / 2 : Nat) : Int) - 1
end
theorem cl_ok {mx : Int} : CxOk Tryz.prog (CL mx) := CxOk.told c0_ok (meT36_ok c0_ok)
theorem xor_all (a : Nat) (h : a ≤ 18446744073709551615) : Nat.xor a 18446744073709551615 = 18446744073709551615 - a := by
  have h1 : (BitVec.ofNat 64 a ^^^ BitVec.allOnes 64).toNat = (~~~ BitVec.ofNat 64 a).toNat := by rw [BitVec.xor_allOnes]
  rw [BitVec.toNat_not, BitVec.toNat_xor, BitVec.toNat_allOnes, BitVec.toNat_ofNat, Nat.mod_eq_of_lt (by omega)] at h1
  show a ^^^ 18446744073709551615 = _
  have e : (2 ^ 64 - 1 : Nat) = 18446744073709551615 := by decide
  rw [e] at h1
  rw [h1]
theorem unf_run (mx : Int) (m : Nat) (n : Nat) (hn : n ≤ 18446744073709551615) (h : AH) :
    (rl (CL mx) (m + 1)).run 26 [.int 18446744073709551615 (n : Int)] h = some (.int 9223372036854775807 (unf n), h) := by
  rw [rl_run, kUnf_run _ _ _ _ _ (by kernel_rfl) (kUnf_fk mx)]
  have s1 : ∀ (h : AH) (κ : Ka), shrA 18446744073709551615 64 (.int 18446744073709551615 (n : Int)) (.int 18446744073709551615 1) h κ = κ (.int 18446744073709551615 ((n / 2 : Nat) : Int)) h := fun h κ => by
    rw [shrA_eq n (by decide) (by decide), show 2 ^ Int.toNat 1 = 2 by simp]
  have s2 : ∀ (h : AH) (κ : Ka), bitA 18446744073709551615 18446744073709551615 Nat.land (.int 18446744073709551615 (n : Int)) (.int 18446744073709551615 1) h κ = κ (.int 18446744073709551615 ((n % 2 : Nat) : Int)) h := fun h κ => by
    rw [bitA_eq, toU_nat hn, show toU 18446744073709551615 1 = 1 from toU_int (by decide) (by decide), show Nat.land n 1 = n % 2 from Nat.and_one_is_mod n, wrapA_nat (by omega)]
  have w1 : wrapA 9223372036854775807 ((n / 2 : Nat) : Int) = ((n / 2 : Nat) : Int) := wrapA_nat (by omega)
  have w2 : wrapA 9223372036854775807 ((n % 2 : Nat) : Int) = ((n % 2 : Nat) : Int) := wrapA_nat (by omega)
  by_cases hp : n % 2 = 0
  · have s3 : ∀ (h : AH) (κ : Ka), negA (.int 9223372036854775807 ((0 : Nat) : Int)) h κ = κ (.int 9223372036854775807 0) h := fun h κ => (rfl)
    have s4 : ∀ (h : AH) (κ : Ka), bitA 9223372036854775807 18446744073709551615 Nat.xor (.int 9223372036854775807 ((n / 2 : Nat) : Int)) (.int 9223372036854775807 0) h κ = κ (.int 9223372036854775807 (unf n)) h := fun h κ => by
      rw [bitA_eq, toU_nat (show n / 2 ≤ 18446744073709551615 by omega), show toU 18446744073709551615 0 = 0 from toU_int (by decide) (by decide), show Nat.xor (n / 2) 0 = n / 2 from Nat.xor_zero _, wrapA_nat (by omega)]
      unfold unf; rw [if_pos hp]
    rw [hp] at s2 w2
    simp only [guardC_b, guardC_u, beqB_tt, beqB_tf, beqB_ft, beqB_ff, min_eq, max_eq, vhO_kVH, ckX_same, bldS_int2, lt_agg, lt_tup, lt_int, lt_bool, lt_str, lt_nils, lt_sle, lt_nil, lt_slp, lt_ptp, kNrm_st, obindS, obindN, kThen_nrm, kThen_ret, kThen_exit, kOut_nrm, kOut_ret, kOut_exit, kIf_b, bqT, bqF, moveA_eq, pickA_eq, boxA_eq, newA_eq, cmp_eq, arith_eq, remA_eq, quoA_eq, notA_eq, negA_eq, cvI_eq, moveP_o, moveP_p, blkC_cells, load1_o, load1_p, loadG_o, loadG_p, store1_o, storeG_o, lenS_nils, lenS_sle, lenS_p, lenS_o, lenT_eq, idxS_p, idxS_o, idxT_eq, idxA_o, idxV1_eq, fld1_eq, fldG_eq, extA_eq, nilCk_o, nilCk_p, strAdd_eq, strCmp_eq, withX_some, withX_none, iaddE, isubE, imulE, iltE, igtE, ileE, igeE, ineE, ibeqE, hget_top, hget_zero, hget_succ, set_top, plains_nil, plains_cons, plain_int, plain_bool, plain_str, plain_nils, plain_slp, plain_sle, plain_nil, plain_pto, plain_ptp, plain_slo, nb_agg, nb_int, nb_bool, nb_str, nb_slp, nb_nils, nb_sle, nb_slo, cells_agg, cells_int, cells_bool, cells_str, List.length_cons, List.length_nil, List.length_append, List.take_succ_cons, List.take_zero, List.drop_succ_cons, List.drop_zero, List.cons_append, List.nil_append, List.append_nil, List.drop_nil, List.take_nil, List.getElem?_cons_zero, List.getElem?_cons_succ, List.set_cons_zero, List.set_cons_succ, Nat.reduceAdd, Nat.reduceMul, Nat.reduceSub, Nat.reduceLeDiff, Nat.reduceEqDiff, Nat.reduceLT, Nat.zero_add, Nat.add_zero, decide_true, decide_false, Bool.and_true, Bool.true_and, Bool.and_false, Bool.false_and, Bool.not_true, Bool.not_false, Nat.le_refl, reduceIte, -negA_eq, kUnf_0_eq, kUnf_1_eq, kUnf_2_eq, kUnf_3_eq, kUnf_4_eq, kUnf_ret, kUnf_nrm, s1, s2, s3, s4, w1, w2]
  · have hp' : n % 2 = 1 := by omega
    have s3 : ∀ (h : AH) (κ : Ka), negA (.int 9223372036854775807 ((1 : Nat) : Int)) h κ = κ (.int 9223372036854775807 (-1)) h := fun h κ => (rfl)
    have s4 : ∀ (h : AH) (κ : Ka), bitA 9223372036854775807 18446744073709551615 Nat.xor (.int 9223372036854775807 ((n / 2 : Nat) : Int)) (.int 9223372036854775807 (-1)) h κ = κ (.int 9223372036854775807 (unf n)) h := fun h κ => by
      rw [bitA_eq, toU_nat (show n / 2 ≤ 18446744073709551615 by omega), show toU 18446744073709551615 (-1) = 18446744073709551615 from rfl, xor_all _ (by omega), wrapA_i64']
      have : IntKind.i64.wrap ((18446744073709551615 - n / 2 : Nat) : Int) = unf n := by
        unfold unf; rw [if_neg hp]
        simp [IntKind.wrap, IntKind.min, IntKind.max, IntKind.signed, IntKind.bits]; omega
      rw [this]
    rw [hp'] at s2 w2
    simp only [guardC_b, guardC_u, beqB_tt, beqB_tf, beqB_ft, beqB_ff, min_eq, max_eq, vhO_kVH, ckX_same, bldS_int2, lt_agg, lt_tup, lt_int, lt_bool, lt_str, lt_nils, lt_sle, lt_nil, lt_slp, lt_ptp, kNrm_st, obindS, obindN, kThen_nrm, kThen_ret, kThen_exit, kOut_nrm, kOut_ret, kOut_exit, kIf_b, bqT, bqF, moveA_eq, pickA_eq, boxA_eq, newA_eq, cmp_eq, arith_eq, remA_eq, quoA_eq, notA_eq, negA_eq, cvI_eq, moveP_o, moveP_p, blkC_cells, load1_o, load1_p, loadG_o, loadG_p, store1_o, storeG_o, lenS_nils, lenS_sle, lenS_p, lenS_o, lenT_eq, idxS_p, idxS_o, idxT_eq, idxA_o, idxV1_eq, fld1_eq, fldG_eq, extA_eq, nilCk_o, nilCk_p, strAdd_eq, strCmp_eq, withX_some, withX_none, iaddE, isubE, imulE, iltE, igtE, ileE, igeE, ineE, ibeqE, hget_top, hget_zero, hget_succ, set_top, plains_nil, plains_cons, plain_int, plain_bool, plain_str, plain_nils, plain_slp, plain_sle, plain_nil, plain_pto, plain_ptp, plain_slo, nb_agg, nb_int, nb_bool, nb_str, nb_slp, nb_nils, nb_sle, nb_slo, cells_agg, cells_int, cells_bool, cells_str, List.length_cons, List.length_nil, List.length_append, List.take_succ_cons, List.take_zero, List.drop_succ_cons, List.drop_zero, List.cons_append, List.nil_append, List.append_nil, List.drop_nil, List.take_nil, List.getElem?_cons_zero, List.getElem?_cons_succ, List.set_cons_zero, List.set_cons_succ, Nat.reduceAdd, Nat.reduceMul, Nat.reduceSub, Nat.reduceLeDiff, Nat.reduceEqDiff, Nat.reduceLT, Nat.zero_add, Nat.add_zero, decide_true, decide_false, Bool.and_true, Bool.true_and, Bool.and_false, Bool.false_and, Bool.not_true, Bool.not_false, Nat.le_refl, reduceIte, -negA_eq, kUnf_0_eq, kUnf_1_eq, kUnf_2_eq, kUnf_3_eq, kUnf_4_eq, kUnf_ret, kUnf_nrm, s1, s2, s3, s4, w1, w2]
theorem sig_run (mx : Int) (m : Nat) (n : Nat) (hn : n ≤ 18446744073709551615) :
    ∃ h', (rl (CL mx) (m + 2)).run 10 [.agg [.int 9223372036854775807 0, .int 9223372036854775807 0, .int 18446744073709551615 (n : Int), .nils]] [] = some (.int 9223372036854775807 (unf n), h') := by
  rw [rl_run, kSig_run _ _ _ _ _ (by kernel_rfl) (kSig_fk mx)]
  have hu := fun h => callA_pure (C := CL mx) (run := (rl (CL mx) (m + 1)).run) (h := h) (by kernel_rfl) (by rfl) (by kernel_rfl) (unf_run mx m n hn []) (by rfl)
  apply Exists.intro
  simp only [guardC_b, guardC_u, beqB_tt, beqB_tf, beqB_ft, beqB_ff, min_eq, max_eq, vhO_kVH, ckX_same, bldS_int2, lt_agg, lt_tup, lt_int, lt_bool, lt_str, lt_nils, lt_sle, lt_nil, lt_slp, lt_ptp, kNrm_st, obindS, obindN, kThen_nrm, kThen_ret, kThen_exit, kOut_nrm, kOut_ret, kOut_exit, kIf_b, bqT, bqF, moveA_eq, pickA_eq, boxA_eq, newA_eq, cmp_eq, arith_eq, remA_eq, quoA_eq, notA_eq, negA_eq, cvI_eq, moveP_o, moveP_p, blkC_cells, load1_o, load1_p, loadG_o, loadG_p, store1_o, storeG_o, lenS_nils, lenS_sle, lenS_p, lenS_o, lenT_eq, idxS_p, idxS_o, idxT_eq, idxA_o, idxV1_eq, fld1_eq, fldG_eq, extA_eq, nilCk_o, nilCk_p, strAdd_eq, strCmp_eq, withX_some, withX_none, iaddE, isubE, imulE, iltE, igtE, ileE, igeE, ineE, ibeqE, hget_top, hget_zero, hget_succ, set_top, plains_nil, plains_cons, plain_int, plain_bool, plain_str, plain_nils, plain_slp, plain_sle, plain_nil, plain_pto, plain_ptp, plain_slo, nb_agg, nb_int, nb_bool, nb_str, nb_slp, nb_nils, nb_sle, nb_slo, cells_agg, cells_int, cells_bool, cells_str, List.length_cons, List.length_nil, List.length_append, List.take_succ_cons, List.take_zero, List.drop_succ_cons, List.drop_zero, List.cons_append, List.nil_append, List.append_nil, List.drop_nil, List.take_nil, List.getElem?_cons_zero, List.getElem?_cons_succ, List.set_cons_zero, List.set_cons_succ, Nat.reduceAdd, Nat.reduceMul, Nat.reduceSub, Nat.reduceLeDiff, Nat.reduceEqDiff, Nat.reduceLT, Nat.zero_add, Nat.add_zero, decide_true, decide_false, Bool.and_true, Bool.true_and, Bool.and_false, Bool.false_and, Bool.not_true, Bool.not_false, Nat.le_refl, reduceIte, kSig_0_eq, kSig_1_eq, kSig_2_eq, kSig_3_eq, kSig_4_eq, kSig_ret, kSig_nrm, hu]
  rfl
theorem law_run (mx : Int) (m : Nat) (n : Nat) (hn : n ≤ 18446744073709551615) :
    ∃ h', (rl (CL mx) (m + 3)).run 4 [.int 18446744073709551615 (n : Int)] [] = some (.bool true, h') := by
  rw [rl_run, kLaw_run _ _ _ _ _ (by kernel_rfl) (kLaw_fk mx)]
  have hhead := fun h => callA_memo (C := CL mx) (run := (rl (CL mx) (m + 2)).run) (h := h) (f := 5) (args := []) (v := .bool true) (by kernel_rfl) (by kernel_rfl) (by kernel_rfl)
  have hspec := fun h => callA_memo (C := CL mx) (run := (rl (CL mx) (m + 2)).run) (h := h) (f := 9) (args := []) (v := mep18.2) (by kernel_rfl) (by kernel_rfl) (by kernel_rfl)
  have hchk := fun h => callA_memo (C := CL mx) (run := (rl (CL mx) (m + 2)).run) (h := h) (f := 11) (args := [mep18.2]) (v := .agg [.int 9223372036854775807 0, .int 9223372036854775807 0]) (by kernel_rfl) (by kernel_rfl) (by kernel_rfl)
  have hdeep := fun h => callA_memo (C := CL mx) (run := (rl (CL mx) (m + 2)).run) (h := h) (f := 12) (args := [mep18.2]) (v := .int 9223372036854775807 5) (by kernel_rfl) (by kernel_rfl) (by kernel_rfl)
  obtain ⟨a, b, hab, pa, pb⟩ : ∃ a b, mep18.2 = .agg [a, b] ∧ a.plain = true ∧ b.plain = true := ⟨_, _, rfl, rfl, rfl⟩
  rw [hab] at hspec hchk hdeep
  obtain ⟨h1, e1⟩ := sig_run mx m n hn
  have hsig := fun h => callA_pure (C := CL mx) (run := (rl (CL mx) (m + 2)).run) (h := h) (by kernel_rfl) (by rfl) (by kernel_rfl) e1 (by rfl)
  have hbld := fun h κ => bldA_of (h := h) (κ := κ) (place := placeOf (CL mx) [(0, 3), (1, 3), (2, 27), (3, 23)]) (z := [.int 9223372036854775807 0, .int 9223372036854775807 0, .int 18446744073709551615 0, .nils]) (ps := [(2, .int 18446744073709551615 (n : Int))])
    (cs := [.int 9223372036854775807 0, .int 9223372036854775807 0, .int 18446744073709551615 (n : Int), .nils]) (by kernel_rfl)
  have hbld2 := fun h κ => bldA_of (h := h) (κ := κ) (place := placeOf (CL mx) [(0, 25), (1, 3)]) (z := [.int 9223372036854775807 0, .int 9223372036854775807 0]) (ps := []) (cs := [.int 9223372036854775807 0, .int 9223372036854775807 0]) (by kernel_rfl)
  have heq : ∀ (h : AH) (κ : Ka), eqlA ⟨(.struct [(0, 25), (1, 3)]), 2, 16, [.int 9223372036854775807 0, .int 9223372036854775807 0], true, true⟩ (.agg [.int 9223372036854775807 0, .int 9223372036854775807 0]) (.agg [.int 9223372036854775807 0, .int 9223372036854775807 0]) h κ = κ (.bool true) h := fun h κ => (rfl)
  have r2 : irem (n : Int) 2 = ((n % 2 : Nat) : Int) := irem_nat n 2
  have q2 : iquo (n : Int) 2 = ((n / 2 : Nat) : Int) := iquo_nat n 2
  have w0 : wrapA 18446744073709551615 ((n / 2 : Nat) : Int) = ((n / 2 : Nat) : Int) := wrapA_nat (by omega)
  have w1 : wrapA 9223372036854775807 ((n / 2 : Nat) : Int) = ((n / 2 : Nat) : Int) := wrapA_nat (by omega)
  have d2 : decide ((2 : Int) ≠ 0) = true := by decide
  have z2 : decide (((0 : Nat) : Int) = 0) = true := by decide
  have z3 : decide (((1 : Nat) : Int) = 0) = false := by decide
  have z4 : decide (((1 : Nat) : Int) = 1) = true := by decide
  have z5 : decide (((0 : Nat) : Int) = 1) = false := by decide
  have z6 : decide ((5 : Int) = 5) = true := by decide
  have hst : ∀ (κ : Ka), storeG 2 (.pto 0 0) (.agg [a, b]) [some (.cells [.nils, .nils] (38 + 1))] κ = κ (.tup []) [some (.cells [a, b] (38 + 1))] := fun κ => storeG_new (h := []) (by rfl) (by rfl) (by rw [plains_cons, plains_cons, pa, pb]; rfl)
  by_cases hp : n % 2 = 0
  · have hun : decide (unf n ≠ ((n / 2 : Nat) : Int)) = false := by rw [decide_eq_false_iff_not]; unfold unf; rw [if_pos hp]; simp
    rw [hp] at r2
    apply Exists.intro
    simp only [guardC_b, guardC_u, beqB_tt, beqB_tf, beqB_ft, beqB_ff, min_eq, max_eq, vhO_kVH, ckX_same, bldS_int2, lt_agg, lt_tup, lt_int, lt_bool, lt_str, lt_nils, lt_sle, lt_nil, lt_slp, lt_ptp, kNrm_st, obindS, obindN, kThen_nrm, kThen_ret, kThen_exit, kOut_nrm, kOut_ret, kOut_exit, kIf_b, bqT, bqF, moveA_eq, pickA_eq, boxA_eq, newA_eq, cmp_eq, arith_eq, remA_eq, quoA_eq, notA_eq, negA_eq, cvI_eq, moveP_o, moveP_p, blkC_cells, load1_o, load1_p, loadG_o, loadG_p, store1_o, storeG_o, lenS_nils, lenS_sle, lenS_p, lenS_o, lenT_eq, idxS_p, idxS_o, idxT_eq, idxA_o, idxV1_eq, fld1_eq, fldG_eq, extA_eq, nilCk_o, nilCk_p, strAdd_eq, strCmp_eq, withX_some, withX_none, iaddE, isubE, imulE, iltE, igtE, ileE, igeE, ineE, ibeqE, hget_top, hget_zero, hget_succ, set_top, plains_nil, plains_cons, plain_int, plain_bool, plain_str, plain_nils, plain_slp, plain_sle, plain_nil, plain_pto, plain_ptp, plain_slo, nb_agg, nb_int, nb_bool, nb_str, nb_slp, nb_nils, nb_sle, nb_slo, cells_agg, cells_int, cells_bool, cells_str, List.length_cons, List.length_nil, List.length_append, List.take_succ_cons, List.take_zero, List.drop_succ_cons, List.drop_zero, List.cons_append, List.nil_append, List.append_nil, List.drop_nil, List.take_nil, List.getElem?_cons_zero, List.getElem?_cons_succ, List.set_cons_zero, List.set_cons_succ, Nat.reduceAdd, Nat.reduceMul, Nat.reduceSub, Nat.reduceLeDiff, Nat.reduceEqDiff, Nat.reduceLT, Nat.zero_add, Nat.add_zero, decide_true, decide_false, Bool.and_true, Bool.true_and, Bool.and_false, Bool.false_and, Bool.not_true, Bool.not_false, Nat.le_refl, reduceIte, -storeG_o, kLaw_0_eq, kLaw_1_eq, kLaw_2_eq, kLaw_3_eq, kLaw_4_eq, kLaw_5_eq, kLaw_6_eq, kLaw_7_eq, kLaw_8_eq, kLaw_9_eq, kLaw_10_eq, kLaw_11_eq, kLaw_12_eq, kLaw_13_eq, kLaw_14_eq, kLaw_15_eq, kLaw_16_eq, kLaw_17_eq, kLaw_18_eq, kLaw_19_eq, kLaw_20_eq, kLaw_21_eq, kLaw_22_eq, kLaw_23_eq, kLaw_24_eq, kLaw_ret, kLaw_nrm, hhead, hspec, hst, hsig, hbld, hbld2, heq, hchk, hdeep, r2, q2, w0, w1, d2, z2, z3, z4, z5, z6, hun]
    rfl
  · have hp' : n % 2 = 1 := by omega
    have w2 : wrapA 9223372036854775807 (Int.ofNat 0 - ((n / 2 : Nat) : Int)) = -((n / 2 : Nat) : Int) := by rw [show Int.ofNat 0 - ((n / 2 : Nat) : Int) = -((n / 2 : Nat) : Int) from Int.zero_sub _, wrapA_i64 (by omega) (by omega)]
    have w3 : wrapA 9223372036854775807 (-((n / 2 : Nat) : Int) - 1) = -((n / 2 : Nat) : Int) - 1 := wrapA_i64 (by omega) (by omega)
    have hun : decide (unf n ≠ -((n / 2 : Nat) : Int) - 1) = false := by rw [decide_eq_false_iff_not]; unfold unf; rw [if_neg hp]; simp
    rw [hp'] at r2
    apply Exists.intro
    simp only [guardC_b, guardC_u, beqB_tt, beqB_tf, beqB_ft, beqB_ff, min_eq, max_eq, vhO_kVH, ckX_same, bldS_int2, lt_agg, lt_tup, lt_int, lt_bool, lt_str, lt_nils, lt_sle, lt_nil, lt_slp, lt_ptp, kNrm_st, obindS, obindN, kThen_nrm, kThen_ret, kThen_exit, kOut_nrm, kOut_ret, kOut_exit, kIf_b, bqT, bqF, moveA_eq, pickA_eq, boxA_eq, newA_eq, cmp_eq, arith_eq, remA_eq, quoA_eq, notA_eq, negA_eq, cvI_eq, moveP_o, moveP_p, blkC_cells, load1_o, load1_p, loadG_o, loadG_p, store1_o, storeG_o, lenS_nils, lenS_sle, lenS_p, lenS_o, lenT_eq, idxS_p, idxS_o, idxT_eq, idxA_o, idxV1_eq, fld1_eq, fldG_eq, extA_eq, nilCk_o, nilCk_p, strAdd_eq, strCmp_eq, withX_some, withX_none, iaddE, isubE, imulE, iltE, igtE, ileE, igeE, ineE, ibeqE, hget_top, hget_zero, hget_succ, set_top, plains_nil, plains_cons, plain_int, plain_bool, plain_str, plain_nils, plain_slp, plain_sle, plain_nil, plain_pto, plain_ptp, plain_slo, nb_agg, nb_int, nb_bool, nb_str, nb_slp, nb_nils, nb_sle, nb_slo, cells_agg, cells_int, cells_bool, cells_str, List.length_cons, List.length_nil, List.length_append, List.take_succ_cons, List.take_zero, List.drop_succ_cons, List.drop_zero, List.cons_append, List.nil_append, List.append_nil, List.drop_nil, List.take_nil, List.getElem?_cons_zero, List.getElem?_cons_succ, List.set_cons_zero, List.set_cons_succ, Nat.reduceAdd, Nat.reduceMul, Nat.reduceSub, Nat.reduceLeDiff, Nat.reduceEqDiff, Nat.reduceLT, Nat.zero_add, Nat.add_zero, decide_true, decide_false, Bool.and_true, Bool.true_and, Bool.and_false, Bool.false_and, Bool.not_true, Bool.not_false, Nat.le_refl, reduceIte, -storeG_o, kLaw_0_eq, kLaw_1_eq, kLaw_2_eq, kLaw_3_eq, kLaw_4_eq, kLaw_5_eq, kLaw_6_eq, kLaw_7_eq, kLaw_8_eq, kLaw_9_eq, kLaw_10_eq, kLaw_11_eq, kLaw_12_eq, kLaw_13_eq, kLaw_14_eq, kLaw_15_eq, kLaw_16_eq, kLaw_17_eq, kLaw_18_eq, kLaw_19_eq, kLaw_20_eq, kLaw_21_eq, kLaw_22_eq, kLaw_23_eq, kLaw_24_eq, kLaw_ret, kLaw_nrm, hhead, hspec, hst, hsig, hbld, hbld2, heq, hchk, hdeep, r2, q2, w0, w1, w2, w3, d2, z2, z3, z4, z5, z6, hun]
    rfl
set_option maxRecDepth 100000 in
theorem ProtoSpec_calls {W : World} {args : Array Value} {a0 : AV} {n0 : Nat} {mx : Int} (I : Inv (C0 mx) (· < W.heap.size) W ρ0 []) (hv : VL (· < W.heap.size) W [a0] ρ0 args.toList)
    (t0 : TyV Tryz.prog n0 27 a0) : Calls Tryz.prog 4 args W fun e w' => e = .returned (.bool true) ∧ RowKit.Below W.heap.size W w' := by
  obtain ⟨x, rfl, wx⟩ := TyV.int_ Tryz.underlying27 t0
  obtain ⟨x0, x1⟩ := Go.bounds_u64 wx
  obtain ⟨x, rfl⟩ : ∃ q : Nat, x = (q : Int) := ⟨x.toNat, by omega⟩
  obtain ⟨h', e⟩ := law_run mx 197 x (by omega)
  exact calls_of_run (runN_ok cl_ok 200 _ _ _ _ _ e) (I.of_gl (told_gl _ _)) hv
end Go.Proofs.YtgjccdampinbgaaGreatDoor
