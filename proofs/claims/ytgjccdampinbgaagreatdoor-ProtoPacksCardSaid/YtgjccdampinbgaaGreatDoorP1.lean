/- Numbers of seven bits a byte, packed: the runs. The functions' equations are printed by a program. -/
import Derived.Test.YtgjccdampinbgaaGreatDoorMF
import Derived.Test.YtgjccdampinbgaaGreatDoorMe
import Derived.Test.YtgjccdampinbgaaGreatDoorME
namespace Go.Proofs.YtgjccdampinbgaaGreatDoor
set_option linter.unusedSimpArgs false
set_option linter.unusedVariables false
set_option linter.unnecessarySimpa false
noncomputable section
/-- The context in which the head is told ahead. -/
def CL (mx : Int) : Cx := (C0 mx).told meT36
/- guipure/leb.Put -/
def kPut_T (v0 v1 v4 v5 v10 : AV) : Tm := (.nd 4 (.nd 1 (.lf 0 v0) (.lf 1 v1)) (.nd 5 (.lf 4 v4) (.nd 10 (.lf 5 v5) (.lf 10 v10))))
section
variable (C : Cx) (run : Run) (lp : Lp) (s : St) (h : AH) (v0 v1 v4 v5 v10 : AV)
def kPut_0 (C : Cx) : K := .reg [.mk (o1 moveA (.cst (.nils)))] [(4, 0)]
theorem kPut_0_eq : kx C run lp (kPut_0 C) ⟨kPut_T v0 v1 v4 v5 v10, h⟩ = kNrm (moveA (.nils) h (fun a0 h => some (.st (kPut_T v0 v1 a0 v5 v10) h))) := (rfl)
def kPut_1 (C : Cx) : K := .reg [.mk (oBuildSlice 1 0 [.int 255 0] []), .mk (o1 moveA (.tr 0)), .mk (o2 (appA 6 1 1) (.st 1) (.st 0)), .mk (o1 moveA (.st 0))] [(5, 0)]
theorem kPut_1_eq : kx C run lp (kPut_1 C) ⟨kPut_T v0 v1 v4 v5 v10, h⟩ = kNrm (bldS 1 0 [.int 255 0] [] h (fun a0 h => moveA v0 h (fun a1 h => appA 6 1 1 a0 a1 h (fun a2 h => moveA a2 h (fun a3 h => some (.st (kPut_T v0 v1 v4 a3 v10) h)))))) := (rfl)
def kPut_2 (C : Cx) : K := .reg [.mk (o1 moveA (.tr 1)), .mk (o2 (cmp ige) (.st 0) (.cst (.int 18446744073709551615 128)))] [(10, 0)]
theorem kPut_2_eq : kx C run lp (kPut_2 C) ⟨kPut_T v0 v1 v4 v5 v10, h⟩ = kNrm (moveA v1 h (fun a0 h => cmp ige a0 (.int 18446744073709551615 128) h (fun a1 h => some (.st (kPut_T v0 v1 v4 v5 a1) h)))) := (rfl)
def kPut_3 (_ : Cx) : K := .skip
theorem kPut_3_eq : kx C run lp (kPut_3 C) s = some (.nrm, s) := (rfl)
def kPut_4 (_ : Cx) : K := .ex (.exit 0)
theorem kPut_4_eq : kx C run lp (kPut_4 C) s = some (.exit 0, s) := (rfl)
def kPut_5 (C : Cx) : K := .cond (.tr 10) (kPut_3 C) (kPut_4 C)
theorem kPut_5_eq : kx C run lp (kPut_5 C) ⟨kPut_T v0 v1 v4 v5 v10, h⟩ = kIf v10 (kx C run lp (kPut_3 C)) (kx C run lp (kPut_4 C)) ⟨kPut_T v0 v1 v4 v5 v10, h⟩ := (rfl)
def kPut_6 (C : Cx) : K := .seq (kPut_2 C) (kPut_5 C)
theorem kPut_6_eq : kx C run lp (kPut_6 C) s = obind (kx C run lp (kPut_2 C) s) (kThen (kx C run lp (kPut_5 C))) := (rfl)
def kPut_7 (C : Cx) : K := .reg [.mk (o1 moveA (.tr 5)), .mk (o1 moveA (.tr 1)), .mk (o1 (cvI 255) (.st 0)), .mk (o2 (bitA 255 255 Nat.lor) (.st 0) (.cst (.int 255 128))), .mk (oBuildSlice 1 1 [.int 255 0] [(0, (.st 0))]), .mk (o2 (appA 6 1 1) (.st 4) (.st 0)), .mk (o1 moveA (.st 0))] [(5, 0)]
theorem kPut_7_eq : kx C run lp (kPut_7 C) ⟨kPut_T v0 v1 v4 v5 v10, h⟩ = kNrm (moveA v5 h (fun a0 h => moveA v1 h (fun a1 h => cvI 255 a1 h (fun a2 h => bitA 255 255 Nat.lor a2 (.int 255 128) h (fun a3 h => bldS 1 1 [.int 255 0] [(0, a3)] h (fun a4 h => appA 6 1 1 a0 a4 h (fun a5 h => moveA a5 h (fun a6 h => some (.st (kPut_T v0 v1 v4 a6 v10) h))))))))) := (rfl)
def kPut_8 (C : Cx) : K := .reg [.mk (o1 moveA (.tr 1)), .mk (o2 (shrA 18446744073709551615 64) (.st 0) (.cst (.int 18446744073709551615 7))), .mk (o1 moveA (.st 0))] [(1, 0)]
theorem kPut_8_eq : kx C run lp (kPut_8 C) ⟨kPut_T v0 v1 v4 v5 v10, h⟩ = kNrm (moveA v1 h (fun a0 h => shrA 18446744073709551615 64 a0 (.int 18446744073709551615 7) h (fun a1 h => moveA a1 h (fun a2 h => some (.st (kPut_T v0 a2 v4 v5 v10) h))))) := (rfl)
def kPut_9 (C : Cx) : K := .seq (kPut_7 C) (kPut_8 C)
theorem kPut_9_eq : kx C run lp (kPut_9 C) s = obind (kx C run lp (kPut_7 C) s) (kThen (kx C run lp (kPut_8 C))) := (rfl)
def kPut_10 (C : Cx) : K := .block 1 (kPut_9 C)
theorem kPut_10_eq : kx C run lp (kPut_10 C) s = obind (kx C run lp (kPut_9 C) s) (kOut 1) := (rfl)
def kPut_11 (C : Cx) : K := .seq (kPut_6 C) (kPut_10 C)
theorem kPut_11_eq : kx C run lp (kPut_11 C) s = obind (kx C run lp (kPut_6 C) s) (kThen (kx C run lp (kPut_10 C))) := (rfl)
def kPut_12 (C : Cx) : K := .loop (kPut_11 C)
theorem kPut_12_eq : kx C run lp (kPut_12 C) s = lp (kPut_11 C) s := (rfl)
def kPut_13 (C : Cx) : K := .block 0 (kPut_12 C)
theorem kPut_13_eq : kx C run lp (kPut_13 C) s = obind (kx C run lp (kPut_12 C) s) (kOut 0) := (rfl)
def kPut_14 (C : Cx) : K := .reg [.mk (o1 moveA (.tr 5)), .mk (o1 moveA (.tr 1)), .mk (o1 (cvI 255) (.st 0)), .mk (oBuildSlice 1 1 [.int 255 0] [(0, (.st 0))]), .mk (o2 (appA 6 1 1) (.st 3) (.st 0)), .mk (o1 moveA (.st 0))] [(4, 0)]
theorem kPut_14_eq : kx C run lp (kPut_14 C) ⟨kPut_T v0 v1 v4 v5 v10, h⟩ = kNrm (moveA v5 h (fun a0 h => moveA v1 h (fun a1 h => cvI 255 a1 h (fun a2 h => bldS 1 1 [.int 255 0] [(0, a2)] h (fun a3 h => appA 6 1 1 a0 a3 h (fun a4 h => moveA a4 h (fun a5 h => some (.st (kPut_T v0 v1 a5 v5 v10) h)))))))) := (rfl)
def kPut_15 (_ : Cx) : K := .ex .ret
theorem kPut_15_eq : kx C run lp (kPut_15 C) s = some (.ret, s) := (rfl)
def kPut_16 (C : Cx) : K := .seq (kPut_14 C) (kPut_15 C)
theorem kPut_16_eq : kx C run lp (kPut_16 C) s = obind (kx C run lp (kPut_14 C) s) (kThen (kx C run lp (kPut_15 C))) := (rfl)
def kPut_17 (C : Cx) : K := .seq (kPut_13 C) (kPut_16 C)
theorem kPut_17_eq : kx C run lp (kPut_17 C) s = obind (kx C run lp (kPut_13 C) s) (kThen (kx C run lp (kPut_16 C))) := (rfl)
def kPut_18 (C : Cx) : K := .seq (kPut_1 C) (kPut_17 C)
theorem kPut_18_eq : kx C run lp (kPut_18 C) s = obind (kx C run lp (kPut_1 C) s) (kThen (kx C run lp (kPut_17 C))) := (rfl)
def kPut_19 (C : Cx) : K := .seq (kPut_0 C) (kPut_18 C)
theorem kPut_19_eq : kx C run lp (kPut_19 C) s = obind (kx C run lp (kPut_0 C) s) (kThen (kx C run lp (kPut_18 C))) := (rfl)
theorem kPut_ret : endA C [.tmp 4] (.ret, ⟨kPut_T v0 v1 v4 v5 v10, h⟩) = some (v4, h) := (rfl)
theorem kPut_nrm : endA C [.tmp 4] (.nrm, ⟨kPut_T v0 v1 v4 v5 v10, h⟩) = some (v4, h) := (rfl)
end
def kPut_F (C : Cx) : FK := ⟨kPut_19 C, [0, 1, 4, 5, 10], 24, [.tmp 4]⟩
theorem kPut_run (C : Cx) (run : Run) (lp : Lp) (x0 x1 : AV) (h : AH) (ho : C.orc 22 = none) (hf : fkAt C 22 = some (kPut_F C)) : runF C run lp 22 [x0, x1] h = obind (kx C run lp (kPut_19 C) ⟨kPut_T x0 x1 .bot .bot .bot, h⟩) (endA C [.tmp 4]) := by
  unfold runF; rw [ho, hf]; rfl
/- guipure/proto.Pack -/
def kPak_T (v0 v1 v4 v5 v7 v10 v11 v12 v13 : AV) : Tm := (.nd 7 (.nd 4 (.nd 1 (.lf 0 v0) (.lf 1 v1)) (.nd 5 (.lf 4 v4) (.lf 5 v5))) (.nd 11 (.nd 10 (.lf 7 v7) (.lf 10 v10)) (.nd 12 (.lf 11 v11) (.nd 13 (.lf 12 v12) (.lf 13 v13)))))
section
variable (C : Cx) (run : Run) (lp : Lp) (s : St) (h : AH) (v0 v1 v4 v5 v7 v10 v11 v12 v13 : AV)
def kPak_0 (C : Cx) : K := .reg [.mk (oAlloc 30 [.int 9223372036854775807 0, .int 9223372036854775807 0, .int 18446744073709551615 0, .nils])] [(4, 0)]
theorem kPak_0_eq : kx C run lp (kPak_0 C) ⟨kPak_T v0 v1 v4 v5 v7 v10 v11 v12 v13, h⟩ = kNrm (newA h (.cells [.int 9223372036854775807 0, .int 9223372036854775807 0, .int 18446744073709551615 0, .nils] 30) (fun a0 h => some (.st (kPak_T v0 v1 a0 v5 v7 v10 v11 v12 v13) h))) := (rfl)
def kPak_1 (C : Cx) : K := .reg [.mk (o1 moveA (.tr 0)), .mk (oBuild (placeOf C [(0, 3), (1, 3), (2, 27), (3, 23)]) [.int 9223372036854775807 0, .int 9223372036854775807 0, .int 18446744073709551615 0, .nils] [(0, (.st 0)), (1, (.cst (.int 9223372036854775807 2)))]), .mk (oAlloc 30 [.int 9223372036854775807 0, .int 9223372036854775807 0, .int 18446744073709551615 0, .nils]), .mk (o2 (storeG 4) (.st 0) (.st 1))] [(5, 1)]
theorem kPak_1_eq : kx C run lp (kPak_1 C) ⟨kPak_T v0 v1 v4 v5 v7 v10 v11 v12 v13, h⟩ = kNrm (moveA v0 h (fun a0 h => bldA (placeOf C [(0, 3), (1, 3), (2, 27), (3, 23)]) [.int 9223372036854775807 0, .int 9223372036854775807 0, .int 18446744073709551615 0, .nils] [(0, a0), (1, (.int 9223372036854775807 2))] h (fun a1 h => newA h (.cells [.int 9223372036854775807 0, .int 9223372036854775807 0, .int 18446744073709551615 0, .nils] 30) (fun a2 h => storeG 4 a2 a1 h (fun a3 h => some (.st (kPak_T v0 v1 v4 a2 v7 v10 v11 v12 v13) h)))))) := (rfl)
def kPak_2 (C : Cx) : K := .reg [.mk (o1 moveA (.tr 1)), .mk (o1 lenS (.st 0)), .mk (o1 moveA (.cst (.int 9223372036854775807 0)))] [(12, 0), (11, 1), (10, 2)]
theorem kPak_2_eq : kx C run lp (kPak_2 C) ⟨kPak_T v0 v1 v4 v5 v7 v10 v11 v12 v13, h⟩ = kNrm (moveA v1 h (fun a0 h => lenS a0 h (fun a1 h => moveA (.int 9223372036854775807 0) h (fun a2 h => some (.st (kPak_T v0 v1 v4 v5 v7 a0 a1 a2 v13) h))))) := (rfl)
def kPak_3 (C : Cx) : K := .reg [.mk (o2 (cmp ilt) (.tr 12) (.tr 11))] [(13, 0)]
theorem kPak_3_eq : kx C run lp (kPak_3 C) ⟨kPak_T v0 v1 v4 v5 v7 v10 v11 v12 v13, h⟩ = kNrm (cmp ilt v12 v11 h (fun a0 h => some (.st (kPak_T v0 v1 v4 v5 v7 v10 v11 v12 a0) h))) := (rfl)
def kPak_4 (_ : Cx) : K := .skip
theorem kPak_4_eq : kx C run lp (kPak_4 C) s = some (.nrm, s) := (rfl)
def kPak_5 (_ : Cx) : K := .ex (.exit 0)
theorem kPak_5_eq : kx C run lp (kPak_5 C) s = some (.exit 0, s) := (rfl)
def kPak_6 (C : Cx) : K := .cond (.tr 13) (kPak_4 C) (kPak_5 C)
theorem kPak_6_eq : kx C run lp (kPak_6 C) ⟨kPak_T v0 v1 v4 v5 v7 v10 v11 v12 v13, h⟩ = kIf v13 (kx C run lp (kPak_4 C)) (kx C run lp (kPak_5 C)) ⟨kPak_T v0 v1 v4 v5 v7 v10 v11 v12 v13, h⟩ := (rfl)
def kPak_7 (C : Cx) : K := .reg [.mk (o2 (idxS 1) (.tr 10) (.tr 12)), .mk (o1 load1 (.st 0)), .mk (o1 moveA (.st 0))] [(7, 0)]
theorem kPak_7_eq : kx C run lp (kPak_7 C) ⟨kPak_T v0 v1 v4 v5 v7 v10 v11 v12 v13, h⟩ = kNrm (idxS 1 v10 v12 h (fun a0 h => load1 a0 h (fun a1 h => moveA a1 h (fun a2 h => some (.st (kPak_T v0 v1 v4 v5 a2 v10 v11 v12 v13) h))))) := (rfl)
def kPak_8 (C : Cx) : K := .reg [.mk (o1 (moveP 3) (.tr 5)), .mk (o1 load1 (.st 0)), .mk (o1 moveA (.tr 7)), .mk (oCallF 22 [(.st 1), (.st 0)]), .mk (o1 (moveP 3) (.tr 5)), .mk (o2 store1 (.st 0) (.st 1))] []
theorem kPak_8_eq : kx C run lp (kPak_8 C) ⟨kPak_T v0 v1 v4 v5 v7 v10 v11 v12 v13, h⟩ = kNrm (moveP 3 v5 h (fun a0 h => load1 a0 h (fun a1 h => moveA v7 h (fun a2 h => withX (fun a3 h => moveP 3 v5 h (fun a4 h => store1 a4 a3 h (fun a5 h => some (.st (kPak_T v0 v1 v4 v5 v7 v10 v11 v12 v13) h)))) (callA C run 22 [a1, a2] h))))) := (rfl)
def kPak_9 (C : Cx) : K := .seq (kPak_7 C) (kPak_8 C)
theorem kPak_9_eq : kx C run lp (kPak_9 C) s = obind (kx C run lp (kPak_7 C) s) (kThen (kx C run lp (kPak_8 C))) := (rfl)
def kPak_10 (C : Cx) : K := .block 1 (kPak_9 C)
theorem kPak_10_eq : kx C run lp (kPak_10 C) s = obind (kx C run lp (kPak_9 C) s) (kOut 1) := (rfl)
def kPak_11 (C : Cx) : K := .reg [.mk (o2 (arith iadd) (.tr 12) (.cst (.int 9223372036854775807 1))), .mk (o1 moveA (.st 0))] [(12, 0)]
theorem kPak_11_eq : kx C run lp (kPak_11 C) ⟨kPak_T v0 v1 v4 v5 v7 v10 v11 v12 v13, h⟩ = kNrm (arith iadd v12 (.int 9223372036854775807 1) h (fun a0 h => moveA a0 h (fun a1 h => some (.st (kPak_T v0 v1 v4 v5 v7 v10 v11 a1 v13) h)))) := (rfl)
def kPak_12 (C : Cx) : K := .seq (kPak_10 C) (kPak_11 C)
theorem kPak_12_eq : kx C run lp (kPak_12 C) s = obind (kx C run lp (kPak_10 C) s) (kThen (kx C run lp (kPak_11 C))) := (rfl)
def kPak_13 (C : Cx) : K := .seq (kPak_6 C) (kPak_12 C)
theorem kPak_13_eq : kx C run lp (kPak_13 C) s = obind (kx C run lp (kPak_6 C) s) (kThen (kx C run lp (kPak_12 C))) := (rfl)
def kPak_14 (C : Cx) : K := .seq (kPak_3 C) (kPak_13 C)
theorem kPak_14_eq : kx C run lp (kPak_14 C) s = obind (kx C run lp (kPak_3 C) s) (kThen (kx C run lp (kPak_13 C))) := (rfl)
def kPak_15 (C : Cx) : K := .loop (kPak_14 C)
theorem kPak_15_eq : kx C run lp (kPak_15 C) s = lp (kPak_14 C) s := (rfl)
def kPak_16 (C : Cx) : K := .block 0 (kPak_15 C)
theorem kPak_16_eq : kx C run lp (kPak_16 C) s = obind (kx C run lp (kPak_15 C) s) (kOut 0) := (rfl)
def kPak_17 (C : Cx) : K := .seq (kPak_2 C) (kPak_16 C)
theorem kPak_17_eq : kx C run lp (kPak_17 C) s = obind (kx C run lp (kPak_2 C) s) (kThen (kx C run lp (kPak_16 C))) := (rfl)
def kPak_18 (C : Cx) : K := .reg [.mk (o1 (loadG 4) (.tr 5)), .mk (o2 (storeG 4) (.tr 4) (.st 0))] []
theorem kPak_18_eq : kx C run lp (kPak_18 C) ⟨kPak_T v0 v1 v4 v5 v7 v10 v11 v12 v13, h⟩ = kNrm (loadG 4 v5 h (fun a0 h => storeG 4 v4 a0 h (fun a1 h => some (.st (kPak_T v0 v1 v4 v5 v7 v10 v11 v12 v13) h)))) := (rfl)
def kPak_19 (_ : Cx) : K := .ex .ret
theorem kPak_19_eq : kx C run lp (kPak_19 C) s = some (.ret, s) := (rfl)
def kPak_20 (C : Cx) : K := .seq (kPak_18 C) (kPak_19 C)
theorem kPak_20_eq : kx C run lp (kPak_20 C) s = obind (kx C run lp (kPak_18 C) s) (kThen (kx C run lp (kPak_19 C))) := (rfl)
def kPak_21 (C : Cx) : K := .seq (kPak_17 C) (kPak_20 C)
theorem kPak_21_eq : kx C run lp (kPak_21 C) s = obind (kx C run lp (kPak_17 C) s) (kThen (kx C run lp (kPak_20 C))) := (rfl)
def kPak_22 (C : Cx) : K := .seq (kPak_1 C) (kPak_21 C)
theorem kPak_22_eq : kx C run lp (kPak_22 C) s = obind (kx C run lp (kPak_1 C) s) (kThen (kx C run lp (kPak_21 C))) := (rfl)
def kPak_23 (C : Cx) : K := .seq (kPak_0 C) (kPak_22 C)
theorem kPak_23_eq : kx C run lp (kPak_23 C) s = obind (kx C run lp (kPak_0 C) s) (kThen (kx C run lp (kPak_22 C))) := (rfl)
-- RESULTS IN CELLS
end
def kPak_F (C : Cx) : FK := ⟨kPak_23 C, [0, 1, 4, 5, 7, 10, 11, 12, 13], 23, [.cell 4 29]⟩
theorem kPak_run (C : Cx) (run : Run) (lp : Lp) (x0 x1 : AV) (h : AH) (ho : C.orc 6 = none) (hf : fkAt C 6 = some (kPak_F C)) : runF C run lp 6 [x0, x1] h = obind (kx C run lp (kPak_23 C) ⟨kPak_T x0 x1 .bot .bot .bot .bot .bot .bot .bot, h⟩) (endA C [.cell 4 29]) := by
  unfold runF; rw [ho, hf]; rfl

theorem kPut_fk (mx : Int) : fkAt (CL mx) 22 = some (kPut_F (CL mx)) := by kernel_rfl
theorem kPak_fk (mx : Int) : fkAt (CL mx) 6 = some (kPak_F (CL mx)) := by kernel_rfl
/-- Bytes as cells; numbers as cells. -/
def bytesA (l : List Nat) : List AV := l.map fun b : Nat => AV.int 255 (b : Int)
def numsA (l : List Nat) : List AV := l.map fun b : Nat => AV.int 18446744073709551615 (b : Int)
/-- A number of seven bits a byte. -/
def enc : Nat → Nat → List Nat
  | 0, n => [n]
  | k + 1, n => if n < 128 then [n] else (128 + n % 128) :: enc k (n / 128)
end
theorem cl_ok {mx : Int} : CxOk Tryz.prog (CL mx) := CxOk.told c0_ok (meT36_ok c0_ok)
theorem bytesA_len (l : List Nat) : (bytesA l).length = l.length := by simp [bytesA]
theorem bytesA_app (a b : List Nat) : bytesA (a ++ b) = bytesA a ++ bytesA b := by simp [bytesA]
theorem bytesA_plains : ∀ l : List Nat, plains (bytesA l) = true
  | [] => rfl
  | a :: l => bytesA_plains l
theorem lor128 (n : Nat) : Nat.lor (n % 256) 128 = 128 + n % 128 := by
  have : ∀ x, x < 256 → Nat.lor x 128 = 128 + x % 128 := by decide +kernel
  rw [this _ (Nat.mod_lt _ (by omega))]; omega
theorem wrap255 (n : Nat) : wrapA 255 (n : Int) = ((n % 256 : Nat) : Int) := by
  rw [wrapA_u8']
  simp [IntKind.wrap, IntKind.min, IntKind.max, IntKind.signed, IntKind.bits]
theorem enc_le (k n : Nat) (h : n < 2 ^ (7 * (k + 1))) : ∀ x ∈ enc k n, x < 256 := by
  induction k generalizing n with
  | zero => intro x hx; simp [enc] at hx; omega
  | succ k ih =>
    intro x hx
    unfold enc at hx
    split at hx
    · simp at hx; omega
    · rcases List.mem_cons.1 hx with rfl | hx
      · omega
      · refine ih (n / 128) ?_ x hx
        rw [show 7 * (k + 1 + 1) = 7 * (k + 1) + 7 by omega, Nat.pow_add] at h
        omega
theorem enc_len (k n : Nat) : 1 ≤ (enc k n).length ∧ (enc k n).length ≤ k + 1 := by
  induction k generalizing n with
  | zero => simp [enc]
  | succ k ih =>
    unfold enc
    split
    · simp
    · have := ih (n / 128)
      simp; omega
theorem shr7 (n : Nat) (h : AH) (κ : Ka) : shrA 18446744073709551615 64 (.int 18446744073709551615 (n : Int)) (.int 18446744073709551615 7) h κ = κ (.int 18446744073709551615 ((n / 128 : Nat) : Int)) h := by
  rw [shrA_eq n (by decide) (by decide), show 2 ^ Int.toNat 7 = 128 by simp]
theorem or128 (n : Nat) (h : AH) (κ : Ka) : bitA 255 255 Nat.lor (.int 255 ((n % 256 : Nat) : Int)) (.int 255 128) h κ = κ (.int 255 ((128 + n % 128 : Nat) : Int)) h := by
  rw [bitA_eq, toU_nat (show n % 256 ≤ 255 by omega), show toU 255 128 = 128 from toU_int (by decide) (by decide), lor128, wrapA_nat (by omega)]
theorem put_loop (mx : Int) (v0 v4 : AV) (m : Nat) : ∀ (k f n b : Nat) (cs : List AV) (y : Nat) (e : Bool) (h : AH) (v10 : AV), n < 2 ^ (7 * (k + 1)) → k + 2 ≤ f → cs.length + k ≤ 900000 → m ≤ b → hget h b = some (.cells cs y) →
    ∃ n' b' y' e' h' hi u10, (rl (CL mx) f).lp (kPut_11 (CL mx)) ⟨kPut_T v0 (.int 18446744073709551615 (n : Int)) v4 (.slo b 0 cs.length cs.length 1 e) v10, h⟩ =
      some (.exit 0, ⟨kPut_T v0 (.int 18446744073709551615 (n' : Nat)) v4 (.slo b' 0 (cs ++ bytesA hi).length (cs ++ bytesA hi).length 1 e') u10, h'⟩) ∧ hget h' b' = some (.cells (cs ++ bytesA hi) y') ∧ m ≤ b' ∧ Fr m h h' ∧ hi ++ [n'] = enc k n ∧ n' < 128 ∧ hi.length ≤ k := by
  intro k
  induction k with
  | zero =>
    intro f n b cs y e h v10 hn hf hc hm hb
    obtain ⟨f, rfl⟩ : ∃ g, f = g + 1 := ⟨f - 1, by omega⟩
    have hn' : n < 128 := by simpa using hn
    have d : decide ((128 : Int) ≤ (n : Int)) = false := by rw [decide_eq_false_iff_not]; omega
    refine ⟨n, b, y, e, h, [], .bool false, ?_, ?_, hm, Fr.refl _ _, rfl, hn', by simp⟩
    · rw [rl_lp]
      simp only [guardC_b, guardC_u, beqB_tt, beqB_tf, beqB_ft, beqB_ff, min_eq, max_eq, vhO_kVH, ckN_eq, ckE_eq, List.length_set, ckX_same, bldS_int2, lt_agg, lt_tup, lt_int, lt_bool, lt_str, lt_nils, lt_sle, lt_nil, lt_slp, lt_ptp, kNrm_st, obindS, obindN, kThen_nrm, kThen_ret, kThen_exit, kOut_nrm, kOut_ret, kOut_exit, kIf_b, bqT, bqF, moveA_eq, pickA_eq, boxA_eq, newA_eq, cmp_eq, arith_eq, remA_eq, quoA_eq, notA_eq, negA_eq, cvI_eq, moveP_o, moveP_p, blkC_cells, load1_o, load1_p, loadG_o, loadG_p, store1_o, storeG_o, lenS_nils, lenS_sle, lenS_p, lenS_o, lenT_eq, idxS_p, idxS_o, idxT_eq, idxA_o, idxV1_eq, fld1_eq, fldG_eq, extA_eq, nilCk_o, nilCk_p, strAdd_eq, strCmp_eq, withX_some, withX_none, iaddE, isubE, imulE, iltE, igtE, ileE, igeE, ineE, ibeqE, hget_top, hget_zero, hget_succ, set_top, plains_nil, plains_cons, plain_int, plain_bool, plain_str, plain_nils, plain_slp, plain_sle, plain_nil, plain_pto, plain_ptp, plain_slo, nb_agg, nb_int, nb_bool, nb_str, nb_slp, nb_nils, nb_sle, nb_slo, cells_agg, cells_int, cells_bool, cells_str, List.length_cons, List.length_nil, List.length_append, List.take_succ_cons, List.take_zero, List.drop_succ_cons, List.drop_zero, List.cons_append, List.nil_append, List.append_nil, List.drop_nil, List.take_nil, List.getElem?_cons_zero, List.getElem?_cons_succ, List.set_cons_zero, List.set_cons_succ, Nat.reduceAdd, Nat.reduceMul, Nat.reduceSub, Nat.reduceLeDiff, Nat.reduceEqDiff, Nat.reduceLT, Nat.zero_add, Nat.add_zero, decide_true, decide_false, Bool.and_true, Bool.true_and, Bool.and_false, Bool.false_and, Bool.not_true, Bool.not_false, Nat.le_refl, reduceIte, kPut_0_eq, kPut_1_eq, kPut_2_eq, kPut_3_eq, kPut_4_eq, kPut_5_eq, kPut_6_eq, kPut_7_eq, kPut_8_eq, kPut_9_eq, kPut_10_eq, kPut_11_eq, kPut_12_eq, kPut_13_eq, kPut_14_eq, kPut_15_eq, kPut_16_eq, kPut_17_eq, kPut_18_eq, kPut_19_eq, kPut_ret, kPut_nrm, d, bytesA, List.map_nil]
    · simpa [bytesA] using hb
  | succ k ih =>
    intro f n b cs y e h v10 hn hf hc hm hb
    obtain ⟨f, rfl⟩ : ∃ g, f = g + 1 := ⟨f - 1, by omega⟩
    by_cases hn' : n < 128
    · have d : decide ((128 : Int) ≤ (n : Int)) = false := by rw [decide_eq_false_iff_not]; omega
      refine ⟨n, b, y, e, h, [], .bool false, ?_, ?_, hm, Fr.refl _ _, by unfold enc; rw [if_pos hn']; rfl, hn', by simp⟩
      · rw [rl_lp]
        simp only [guardC_b, guardC_u, beqB_tt, beqB_tf, beqB_ft, beqB_ff, min_eq, max_eq, vhO_kVH, ckN_eq, ckE_eq, List.length_set, ckX_same, bldS_int2, lt_agg, lt_tup, lt_int, lt_bool, lt_str, lt_nils, lt_sle, lt_nil, lt_slp, lt_ptp, kNrm_st, obindS, obindN, kThen_nrm, kThen_ret, kThen_exit, kOut_nrm, kOut_ret, kOut_exit, kIf_b, bqT, bqF, moveA_eq, pickA_eq, boxA_eq, newA_eq, cmp_eq, arith_eq, remA_eq, quoA_eq, notA_eq, negA_eq, cvI_eq, moveP_o, moveP_p, blkC_cells, load1_o, load1_p, loadG_o, loadG_p, store1_o, storeG_o, lenS_nils, lenS_sle, lenS_p, lenS_o, lenT_eq, idxS_p, idxS_o, idxT_eq, idxA_o, idxV1_eq, fld1_eq, fldG_eq, extA_eq, nilCk_o, nilCk_p, strAdd_eq, strCmp_eq, withX_some, withX_none, iaddE, isubE, imulE, iltE, igtE, ileE, igeE, ineE, ibeqE, hget_top, hget_zero, hget_succ, set_top, plains_nil, plains_cons, plain_int, plain_bool, plain_str, plain_nils, plain_slp, plain_sle, plain_nil, plain_pto, plain_ptp, plain_slo, nb_agg, nb_int, nb_bool, nb_str, nb_slp, nb_nils, nb_sle, nb_slo, cells_agg, cells_int, cells_bool, cells_str, List.length_cons, List.length_nil, List.length_append, List.take_succ_cons, List.take_zero, List.drop_succ_cons, List.drop_zero, List.cons_append, List.nil_append, List.append_nil, List.drop_nil, List.take_nil, List.getElem?_cons_zero, List.getElem?_cons_succ, List.set_cons_zero, List.set_cons_succ, Nat.reduceAdd, Nat.reduceMul, Nat.reduceSub, Nat.reduceLeDiff, Nat.reduceEqDiff, Nat.reduceLT, Nat.zero_add, Nat.add_zero, decide_true, decide_false, Bool.and_true, Bool.true_and, Bool.and_false, Bool.false_and, Bool.not_true, Bool.not_false, Nat.le_refl, reduceIte, kPut_0_eq, kPut_1_eq, kPut_2_eq, kPut_3_eq, kPut_4_eq, kPut_5_eq, kPut_6_eq, kPut_7_eq, kPut_8_eq, kPut_9_eq, kPut_10_eq, kPut_11_eq, kPut_12_eq, kPut_13_eq, kPut_14_eq, kPut_15_eq, kPut_16_eq, kPut_17_eq, kPut_18_eq, kPut_19_eq, kPut_ret, kPut_nrm, d, bytesA, List.map_nil]
      · simpa [bytesA] using hb
    · have d : decide ((128 : Int) ≤ (n : Int)) = true := by rw [decide_eq_true_iff]; omega
      have hlb : b < h.length := hget_of_lt hb
      obtain ⟨b1, y1, e1, h1, g1, g2, g3, g4, g5⟩ := appA_at (5 + 1) (by_ := 1) (by decide) (h := h ++ [some (.cells [.int 255 ((128 + n % 128 : Nat) : Int)] 0)]) (e := e) (by rw [hget_old hlb]; exact hb) (SlAt.new1 h 255 ((128 + n % 128 : Nat) : Int)) (by rfl) (by simp; omega)
      have hm1 : m ≤ b1 := by
        rcases g5 with rfl | g5
        · exact hm
        · simp at g5; omega
      obtain ⟨n', b', y', e', h', hi, u10, i1, i2, i3, i4, i5, i6, i7⟩ := ih f (n / 128) b1 (cs ++ [.int 255 ((128 + n % 128 : Nat) : Int)]) y1 e1 h1 (.bool true) (by
        rw [show 7 * (k + 1 + 1) = 7 * (k + 1) + 7 by omega, Nat.pow_add] at hn
        omega) (by omega) (by simp; omega) hm1 g2
      refine ⟨n', b', y', e', h', (128 + n % 128) :: hi, u10, ?_, ?_, i3, ?_, ?_, i6, by simp; omega⟩
      · rw [rl_lp]
        rw [show cs ++ bytesA ((128 + n % 128) :: hi) = cs ++ [.int 255 ((128 + n % 128 : Nat) : Int)] ++ bytesA hi by simp [bytesA]]
        simp only [guardC_b, guardC_u, beqB_tt, beqB_tf, beqB_ft, beqB_ff, min_eq, max_eq, vhO_kVH, ckN_eq, ckE_eq, List.length_set, ckX_same, bldS_int2, lt_agg, lt_tup, lt_int, lt_bool, lt_str, lt_nils, lt_sle, lt_nil, lt_slp, lt_ptp, kNrm_st, obindS, obindN, kThen_nrm, kThen_ret, kThen_exit, kOut_nrm, kOut_ret, kOut_exit, kIf_b, bqT, bqF, moveA_eq, pickA_eq, boxA_eq, newA_eq, cmp_eq, arith_eq, remA_eq, quoA_eq, notA_eq, negA_eq, cvI_eq, moveP_o, moveP_p, blkC_cells, load1_o, load1_p, loadG_o, loadG_p, store1_o, storeG_o, lenS_nils, lenS_sle, lenS_p, lenS_o, lenT_eq, idxS_p, idxS_o, idxT_eq, idxA_o, idxV1_eq, fld1_eq, fldG_eq, extA_eq, nilCk_o, nilCk_p, strAdd_eq, strCmp_eq, withX_some, withX_none, iaddE, isubE, imulE, iltE, igtE, ileE, igeE, ineE, ibeqE, hget_top, hget_zero, hget_succ, set_top, plains_nil, plains_cons, plain_int, plain_bool, plain_str, plain_nils, plain_slp, plain_sle, plain_nil, plain_pto, plain_ptp, plain_slo, nb_agg, nb_int, nb_bool, nb_str, nb_slp, nb_nils, nb_sle, nb_slo, cells_agg, cells_int, cells_bool, cells_str, List.length_cons, List.length_nil, List.length_append, List.take_succ_cons, List.take_zero, List.drop_succ_cons, List.drop_zero, List.cons_append, List.nil_append, List.append_nil, List.drop_nil, List.take_nil, List.getElem?_cons_zero, List.getElem?_cons_succ, List.set_cons_zero, List.set_cons_succ, Nat.reduceAdd, Nat.reduceMul, Nat.reduceSub, Nat.reduceLeDiff, Nat.reduceEqDiff, Nat.reduceLT, Nat.zero_add, Nat.add_zero, decide_true, decide_false, Bool.and_true, Bool.true_and, Bool.and_false, Bool.false_and, Bool.not_true, Bool.not_false, Nat.le_refl, reduceIte, kPut_0_eq, kPut_1_eq, kPut_2_eq, kPut_3_eq, kPut_4_eq, kPut_5_eq, kPut_6_eq, kPut_7_eq, kPut_8_eq, kPut_9_eq, kPut_10_eq, kPut_11_eq, kPut_12_eq, kPut_13_eq, kPut_14_eq, kPut_15_eq, kPut_16_eq, kPut_17_eq, kPut_18_eq, kPut_19_eq, kPut_ret, kPut_nrm, -List.length_append, -List.length_cons, -List.length_nil, d, wrap255, or128, bldS_1, g1, shr7]
        exact i1
      · rw [i2]; simp [bytesA]
      · refine Fr.trans ⟨Nat.le_trans (by simp) g3, fun i hi => ?_⟩ i4
        rw [g4 i (by omega) (by simp; omega), hget_old (by omega)]
      · unfold enc; rw [if_neg hn', ← i5]; rfl
theorem put_run (mx : Int) (f : Nat) {h : AH} {to : AV} {bs : List Nat} (hr : SlAt h to (bytesA bs)) (hl : bs.length ≤ 800000) (x : Nat) (hx : x ≤ 18446744073709551615) :
    ∃ b y e h', (rl (CL mx) (f + 13)).run 22 [to, .int 18446744073709551615 (x : Int)] h = some (.slo b 0 (bytesA (bs ++ enc 9 x)).length (bytesA (bs ++ enc 9 x)).length 1 e, h') ∧ hget h' b = some (.cells (bytesA (bs ++ enc 9 x)) y) ∧ Fr h.length h h' ∧ h.length ≤ b := by
  rw [rl_run]
  obtain ⟨b1, y1, e1, h1, g1, g2, g3, g4, g5⟩ := appA_at (5 + 1) (by_ := 1) (by decide) (h := h ++ [some (.cells [] 0)]) (b := h.length) (y := 0) (e := true) (cs := []) (by rw [hget_top]) (hr.up (Fr.push (Nat.le_refl _) _)) (bytesA_plains bs) (by rw [bytesA_len]; simp; omega)
  rw [List.nil_append] at g2
  simp only [List.nil_append, List.length_nil] at g1
  have hm1 : h.length ≤ b1 := by
    rcases g5 with rfl | g5
    · exact Nat.le_refl _
    · simp at g5; omega
  obtain ⟨n', b', y', e', h', hi, u10, i1, i2, i3, i4, i5, i6, i7⟩ := put_loop mx to .nils h.length 9 (f + 12) x b1 (bytesA bs) y1 e1 h1 .bot (by simp; omega) (by omega) (by rw [bytesA_len]; omega) hm1 g2
  have hlb : b' < h'.length := hget_of_lt i2
  obtain ⟨b2, y2, e2, h2, q1, q2, q3, q4, q5⟩ := appA_at (5 + 1) (by_ := 1) (by decide) (h := h' ++ [some (.cells [.int 255 ((n' : Nat) : Int)] 0)]) (e := e') (by rw [hget_old hlb]; exact i2) (SlAt.new1 h' 255 ((n' : Nat) : Int)) (by rfl) (by rw [List.length_append, bytesA_len, bytesA_len]; simp; omega)
  have eall : bytesA bs ++ bytesA hi ++ [.int 255 ((n' : Nat) : Int)] = bytesA (bs ++ enc 9 x) := by rw [← i5]; simp [bytesA]
  rw [eall] at q1 q2
  have wn : wrapA 255 (n' : Int) = (n' : Int) := wrapA_nat (by omega)
  refine ⟨b2, y2, e2, h2, ?_, q2, ?_, ?_⟩
  · rw [kPut_run _ _ _ _ _ _ (by kernel_rfl) (kPut_fk mx)]
    simp only [guardC_b, guardC_u, beqB_tt, beqB_tf, beqB_ft, beqB_ff, min_eq, max_eq, vhO_kVH, ckN_eq, ckE_eq, List.length_set, ckX_same, bldS_int2, lt_agg, lt_tup, lt_int, lt_bool, lt_str, lt_nils, lt_sle, lt_nil, lt_slp, lt_ptp, kNrm_st, obindS, obindN, kThen_nrm, kThen_ret, kThen_exit, kOut_nrm, kOut_ret, kOut_exit, kIf_b, bqT, bqF, moveA_eq, pickA_eq, boxA_eq, newA_eq, cmp_eq, arith_eq, remA_eq, quoA_eq, notA_eq, negA_eq, cvI_eq, moveP_o, moveP_p, blkC_cells, load1_o, load1_p, loadG_o, loadG_p, store1_o, storeG_o, lenS_nils, lenS_sle, lenS_p, lenS_o, lenT_eq, idxS_p, idxS_o, idxT_eq, idxA_o, idxV1_eq, fld1_eq, fldG_eq, extA_eq, nilCk_o, nilCk_p, strAdd_eq, strCmp_eq, withX_some, withX_none, iaddE, isubE, imulE, iltE, igtE, ileE, igeE, ineE, ibeqE, hget_top, hget_zero, hget_succ, set_top, plains_nil, plains_cons, plain_int, plain_bool, plain_str, plain_nils, plain_slp, plain_sle, plain_nil, plain_pto, plain_ptp, plain_slo, nb_agg, nb_int, nb_bool, nb_str, nb_slp, nb_nils, nb_sle, nb_slo, cells_agg, cells_int, cells_bool, cells_str, List.length_cons, List.length_nil, List.length_append, List.take_succ_cons, List.take_zero, List.drop_succ_cons, List.drop_zero, List.cons_append, List.nil_append, List.append_nil, List.drop_nil, List.take_nil, List.getElem?_cons_zero, List.getElem?_cons_succ, List.set_cons_zero, List.set_cons_succ, Nat.reduceAdd, Nat.reduceMul, Nat.reduceSub, Nat.reduceLeDiff, Nat.reduceEqDiff, Nat.reduceLT, Nat.zero_add, Nat.add_zero, decide_true, decide_false, Bool.and_true, Bool.true_and, Bool.and_false, Bool.false_and, Bool.not_true, Bool.not_false, Nat.le_refl, reduceIte, kPut_0_eq, kPut_1_eq, kPut_2_eq, kPut_3_eq, kPut_4_eq, kPut_5_eq, kPut_6_eq, kPut_7_eq, kPut_8_eq, kPut_9_eq, kPut_10_eq, kPut_11_eq, kPut_12_eq, kPut_13_eq, kPut_14_eq, kPut_15_eq, kPut_16_eq, kPut_17_eq, kPut_18_eq, kPut_19_eq, kPut_ret, kPut_nrm, -kPut_11_eq, -List.length_append, -List.length_cons, -List.length_nil, bldS_0, g1, i1, wn, bldS_1, q1]
  · refine Fr.trans ⟨Nat.le_trans (by simp) g3, fun i hi => ?_⟩ (Fr.trans i4 ⟨Nat.le_trans (by simp) q3, fun i hi => ?_⟩)
    · rw [g4 i (by omega) (by simp; omega), hget_old (by omega)]
    · have := i4.1
      have hh : h.length ≤ h'.length := Nat.le_trans (Nat.le_trans (by simp) g3) this
      rw [q4 i (by omega) (by simp; omega), hget_old (by omega)]
  · have hh : h.length ≤ h'.length := Nat.le_trans (Nat.le_trans (by simp) g3) i4.1
    rcases q5 with rfl | q5
    · exact i3
    · simp at q5; omega
theorem upL_bytes (k : Nat) : ∀ l : List Nat, upL k (bytesA l) = bytesA l
  | [] => rfl
  | a :: l => by
    show upL k (.int 255 (a : Int) :: bytesA l) = _
    rw [upL_cons, upL_bytes k l]; rfl
theorem upL_nums (k : Nat) : ∀ l : List Nat, upL k (numsA l) = numsA l
  | [] => rfl
  | a :: l => by
    show upL k (.int 18446744073709551615 (a : Int) :: numsA l) = _
    rw [upL_cons, upL_nums k l]; rfl
theorem numsA_len (l : List Nat) : (numsA l).length = l.length := by simp [numsA]
theorem put_call (mx : Int) (f : Nat) {h : AH} {to : AV} {bs : List Nat} (hr : SlAt h to (bytesA bs)) (hl : bs.length ≤ 800000) (x : Nat) (hx : x ≤ 18446744073709551615) :
    ∃ b y e h', callA (CL mx) (rl (CL mx) (f + 13)).run 22 [to, .int 18446744073709551615 (x : Int)] h = some (.slo b 0 (bytesA (bs ++ enc 9 x)).length (bytesA (bs ++ enc 9 x)).length 1 e, h') ∧ hget h' b = some (.cells (bytesA (bs ++ enc 9 x)) y) ∧ Fr h.length h h' ∧ h.length ≤ b := by
  obtain ⟨r, h', e, b, y, e', rfl, q1, q2, q3⟩ := callA_any (C := CL mx) (run := (rl (CL mx) (f + 13)).run) (h := h) (f := 22) (args := [to, .int 18446744073709551615 (x : Int)])
    (Q := fun h r h' => ∃ b y e, r = .slo b 0 (bytesA (bs ++ enc 9 x)).length (bytesA (bs ++ enc 9 x)).length 1 e ∧ hget h' b = some (.cells (bytesA (bs ++ enc 9 x)) y) ∧ Fr h.length h h' ∧ h.length ≤ b)
    (by kernel_rfl) (fun _ => by kernel_rfl) (by kernel_rfl) (by kernel_rfl)
    (fun h0 hh => by
      have hr0 : SlAt h0 to (bytesA bs) := by
        rcases hh with rfl | ⟨rfl, hp⟩
        · exact hr
        · have hp : and (to.lt 0) true = true := hp
          rw [Bool.and_true] at hp
          exact hr.pure hp []
      obtain ⟨b, y, e, h', e1, e2, e3, e4⟩ := put_run mx f hr0 hl x hx
      exact ⟨_, _, e1, b, y, e, rfl, e2, e3, e4⟩)
    (fun r h1 ⟨b, y, e, hr, e2, e3, e4⟩ => by
      subst hr
      refine ⟨b + h.length, y, e, rfl, ?_, Fr.shift h h1, by omega⟩
      rw [← fapp_eq, hget_app, if_neg (by omega), Nat.add_sub_cancel, ← fmap_eq, hget_map, e2]
      show some (Blk.cells (upL h.length _) y) = _
      rw [upL_bytes])
    (fun r h1 ⟨b, y, e, hr, _⟩ hl => by subst hr; rw [lt_slo] at hl; simp at hl)
  exact ⟨b, y, e', h', e, q1, q2, q3⟩
def zeroF : List AV := [.int 9223372036854775807 0, .int 9223372036854775807 0, .int 18446744073709551615 0, .nils]
theorem pak_loop (mx : Int) {L : List Nat} {lv : AV} (hL : SlAt [] lv (numsA L)) (hp : lv.lt 0 = true) (hx : ∀ x ∈ L, x ≤ 18446744073709551615) (hlen : L.length ≤ 100) (v0 v1 : AV) : ∀ (k i f : Nat) (h : AH) (d : AV) (bs : List Nat) (v7 v13 : AV), i + k = L.length → k + 20 ≤ f → bs.length ≤ 10 * i →
    hget h 0 = some (.cells zeroF (29 + 1)) → hget h 1 = some (.cells [.int 9223372036854775807 1, .int 9223372036854775807 2, .int 18446744073709551615 0, d] (29 + 1)) → SlAt h d (bytesA bs) → (∀ X, SlAt (h.set 0 X) d (bytesA bs)) →
    ∃ h' d' u7 u13, (rl (CL mx) f).lp (kPak_14 (CL mx)) ⟨kPak_T v0 v1 (.pto 0 0) (.pto 1 0) v7 lv (.int 9223372036854775807 (L.length : Int)) (.int 9223372036854775807 (i : Int)) v13, h⟩ =
      some (.exit 0, ⟨kPak_T v0 v1 (.pto 0 0) (.pto 1 0) u7 lv (.int 9223372036854775807 (L.length : Int)) (.int 9223372036854775807 (L.length : Int)) u13, h'⟩) ∧ hget h' 0 = some (.cells zeroF (29 + 1)) ∧
      hget h' 1 = some (.cells [.int 9223372036854775807 1, .int 9223372036854775807 2, .int 18446744073709551615 0, d'] (29 + 1)) ∧ SlAt h' d' (bytesA (bs ++ (L.drop i).flatMap (enc 9))) ∧ ∀ X, SlAt (h'.set 0 X) d' (bytesA (bs ++ (L.drop i).flatMap (enc 9))) := by
  intro k
  induction k with
  | zero =>
    intro i f h d bs v7 v13 hi hf hb h0 h1 hd hd0
    obtain ⟨f, rfl⟩ : ∃ g, f = g + 1 := ⟨f - 1, by omega⟩
    obtain rfl : i = L.length := by omega
    have dd : decide ((L.length : Int) < (L.length : Int)) = false := by simp
    refine ⟨h, d, v7, .bool false, ?_, h0, h1, by simpa using hd, by simpa using hd0⟩
    rw [rl_lp]
    simp only [guardC_b, guardC_u, beqB_tt, beqB_tf, beqB_ft, beqB_ff, min_eq, max_eq, vhO_kVH, ckN_eq, ckE_eq, List.length_set, ckX_same, bldS_int2, lt_agg, lt_tup, lt_int, lt_bool, lt_str, lt_nils, lt_sle, lt_nil, lt_slp, lt_ptp, kNrm_st, obindS, obindN, kThen_nrm, kThen_ret, kThen_exit, kOut_nrm, kOut_ret, kOut_exit, kIf_b, bqT, bqF, moveA_eq, pickA_eq, boxA_eq, newA_eq, cmp_eq, arith_eq, remA_eq, quoA_eq, notA_eq, negA_eq, cvI_eq, moveP_o, moveP_p, blkC_cells, load1_o, load1_p, loadG_o, loadG_p, store1_o, storeG_o, lenS_nils, lenS_sle, lenS_p, lenS_o, lenT_eq, idxS_p, idxS_o, idxT_eq, idxA_o, idxV1_eq, fld1_eq, fldG_eq, extA_eq, nilCk_o, nilCk_p, strAdd_eq, strCmp_eq, withX_some, withX_none, iaddE, isubE, imulE, iltE, igtE, ileE, igeE, ineE, ibeqE, hget_top, hget_zero, hget_succ, set_top, plains_nil, plains_cons, plain_int, plain_bool, plain_str, plain_nils, plain_slp, plain_sle, plain_nil, plain_pto, plain_ptp, plain_slo, nb_agg, nb_int, nb_bool, nb_str, nb_slp, nb_nils, nb_sle, nb_slo, cells_agg, cells_int, cells_bool, cells_str, List.length_cons, List.length_nil, List.length_append, List.take_succ_cons, List.take_zero, List.drop_succ_cons, List.drop_zero, List.cons_append, List.nil_append, List.append_nil, List.drop_nil, List.take_nil, List.getElem?_cons_zero, List.getElem?_cons_succ, List.set_cons_zero, List.set_cons_succ, Nat.reduceAdd, Nat.reduceMul, Nat.reduceSub, Nat.reduceLeDiff, Nat.reduceEqDiff, Nat.reduceLT, Nat.zero_add, Nat.add_zero, decide_true, decide_false, Bool.and_true, Bool.true_and, Bool.and_false, Bool.false_and, Bool.not_true, Bool.not_false, Nat.le_refl, reduceIte, kPak_0_eq, kPak_1_eq, kPak_2_eq, kPak_3_eq, kPak_4_eq, kPak_5_eq, kPak_6_eq, kPak_7_eq, kPak_8_eq, kPak_9_eq, kPak_10_eq, kPak_11_eq, kPak_12_eq, kPak_13_eq, kPak_14_eq, kPak_15_eq, kPak_16_eq, kPak_17_eq, kPak_18_eq, kPak_19_eq, kPak_20_eq, kPak_21_eq, kPak_22_eq, kPak_23_eq, dd]
  | succ k ih =>
    intro i f h d bs v7 v13 hi hf hb h0 h1 hd hd0
    obtain ⟨f, rfl⟩ : ∃ g, f = g + 14 := ⟨f - 14, by omega⟩
    have hlt : i < L.length := by omega
    have dd : decide ((i : Int) < (L.length : Int)) = true := by simp; omega
    obtain ⟨x, ex⟩ : ∃ x, L[i]? = some x := ⟨_, List.getElem?_eq_getElem hlt⟩
    have xb := hx x (List.mem_of_getElem? ex)
    obtain ⟨p, p1, p2, p3⟩ := (hL.pure hp h).idx (i := i) (c := .int 18446744073709551615 (x : Int)) (by unfold numsA; rw [List.getElem?_map, ex]; rfl)
    obtain ⟨b, y, e, h', c1, c2, c3, c4⟩ := put_call mx f hd (by omega) x xb
    have l2 : 1 < h.length := hget_of_lt h1
    have g1 : hget h' 1 = some (.cells [.int 9223372036854775807 1, .int 9223372036854775807 2, .int 18446744073709551615 0, d] (29 + 1)) := by rw [c3.2 1 l2]; exact h1
    have l3 : 1 < h'.length := hget_of_lt g1
    have w : wrapA 9223372036854775807 ((i : Int) + 1) = ((i + 1 : Nat) : Int) := by rw [wrapA_i64 (by omega) (by omega)]; push_cast; rfl
    obtain ⟨h2, d', u7, u13, q1, q2, q3, q4, q5⟩ := ih (i + 1) (f + 13) (h'.set 1 (some (.cells [.int 9223372036854775807 1, .int 9223372036854775807 2, .int 18446744073709551615 0, .slo b 0 (bytesA (bs ++ enc 9 x)).length (bytesA (bs ++ enc 9 x)).length 1 e] (29 + 1))))
      (.slo b 0 (bytesA (bs ++ enc 9 x)).length (bytesA (bs ++ enc 9 x)).length 1 e) (bs ++ enc 9 x) (.int 18446744073709551615 (x : Int)) (.bool true) (by omega) (by omega) (by have := enc_len 9 x; simp; omega)
      (by rw [hget_set_ne (by omega), c3.2 0 (by omega)]; exact h0) (by rw [hget_set_same l3])
      (.inr (.inr ⟨b, 0, _, _, y, e, rfl, by rw [hget_set_ne (by omega)]; exact c2, by simp, by simp⟩))
      (fun X => .inr (.inr ⟨b, 0, _, _, y, e, rfl, by rw [hget_set_ne (by omega), hget_set_ne (by omega)]; exact c2, by simp, by simp⟩))
    have ee : (L.drop i).flatMap (enc 9) = enc 9 x ++ (L.drop (i + 1)).flatMap (enc 9) := by rw [List.drop_eq_getElem_cons hlt, show L[i] = x from (List.getElem?_eq_some_iff.1 ex).2, List.flatMap_cons]
    rw [ee, ← List.append_assoc]
    refine ⟨h2, d', u7, u13, ?_, q2, q3, q4, q5⟩
    rw [rl_lp]
    simp only [guardC_b, guardC_u, beqB_tt, beqB_tf, beqB_ft, beqB_ff, min_eq, max_eq, vhO_kVH, ckN_eq, ckE_eq, List.length_set, ckX_same, bldS_int2, lt_agg, lt_tup, lt_int, lt_bool, lt_str, lt_nils, lt_sle, lt_nil, lt_slp, lt_ptp, kNrm_st, obindS, obindN, kThen_nrm, kThen_ret, kThen_exit, kOut_nrm, kOut_ret, kOut_exit, kIf_b, bqT, bqF, moveA_eq, pickA_eq, boxA_eq, newA_eq, cmp_eq, arith_eq, remA_eq, quoA_eq, notA_eq, negA_eq, cvI_eq, moveP_o, moveP_p, blkC_cells, load1_o, load1_p, loadG_o, loadG_p, store1_o, storeG_o, lenS_nils, lenS_sle, lenS_p, lenS_o, lenT_eq, idxS_p, idxS_o, idxT_eq, idxA_o, idxV1_eq, fld1_eq, fldG_eq, extA_eq, nilCk_o, nilCk_p, strAdd_eq, strCmp_eq, withX_some, withX_none, iaddE, isubE, imulE, iltE, igtE, ileE, igeE, ineE, ibeqE, hget_top, hget_zero, hget_succ, set_top, plains_nil, plains_cons, plain_int, plain_bool, plain_str, plain_nils, plain_slp, plain_sle, plain_nil, plain_pto, plain_ptp, plain_slo, nb_agg, nb_int, nb_bool, nb_str, nb_slp, nb_nils, nb_sle, nb_slo, cells_agg, cells_int, cells_bool, cells_str, List.length_cons, List.length_nil, List.length_append, List.take_succ_cons, List.take_zero, List.drop_succ_cons, List.drop_zero, List.cons_append, List.nil_append, List.append_nil, List.drop_nil, List.take_nil, List.getElem?_cons_zero, List.getElem?_cons_succ, List.set_cons_zero, List.set_cons_succ, Nat.reduceAdd, Nat.reduceMul, Nat.reduceSub, Nat.reduceLeDiff, Nat.reduceEqDiff, Nat.reduceLT, Nat.zero_add, Nat.add_zero, decide_true, decide_false, Bool.and_true, Bool.true_and, Bool.and_false, Bool.false_and, Bool.not_true, Bool.not_false, Nat.le_refl, reduceIte, kPak_0_eq, kPak_1_eq, kPak_2_eq, kPak_3_eq, kPak_4_eq, kPak_5_eq, kPak_6_eq, kPak_7_eq, kPak_8_eq, kPak_9_eq, kPak_10_eq, kPak_11_eq, kPak_12_eq, kPak_13_eq, kPak_14_eq, kPak_15_eq, kPak_16_eq, kPak_17_eq, kPak_18_eq, kPak_19_eq, kPak_20_eq, kPak_21_eq, kPak_22_eq, kPak_23_eq, dd, p2, p3, h1, c1, g1, w]
    exact q1
theorem pak_run (mx : Int) {L : List Nat} {lv : AV} (hL : SlAt [] lv (numsA L)) (hp : lv.lt 0 = true) (hx : ∀ x ∈ L, x ≤ 18446744073709551615) (hlen : L.length ≤ 100) (f : Nat) (hf : 130 ≤ f) :
    ∃ d h', (rl (CL mx) (f + 1)).run 6 [.int 9223372036854775807 1, lv] [] = some (.agg [.int 9223372036854775807 1, .int 9223372036854775807 2, .int 18446744073709551615 0, d], h') ∧ SlAt h' d (bytesA (L.flatMap (enc 9))) := by
  have hbld := fun h κ => bldA_of (h := h) (κ := κ) (place := placeOf (CL mx) [(0, 3), (1, 3), (2, 27), (3, 23)]) (z := [.int 9223372036854775807 0, .int 9223372036854775807 0, .int 18446744073709551615 0, .nils]) (ps := [(0, .int 9223372036854775807 1), (1, .int 9223372036854775807 2)])
    (cs := [.int 9223372036854775807 1, .int 9223372036854775807 2, .int 18446744073709551615 0, .nils]) (by kernel_rfl)
  obtain ⟨h', d, u7, u13, q1, q2, q3, q4, q5⟩ := pak_loop mx hL hp hx hlen (.int 9223372036854775807 1) lv L.length 0 f [some (.cells zeroF (29 + 1)), some (.cells [.int 9223372036854775807 1, .int 9223372036854775807 2, .int 18446744073709551615 0, .nils] (29 + 1))] .nils [] .bot .bot (by omega) (by omega) (by simp) rfl rfl (.inl ⟨rfl, .inl rfl⟩) (fun _ => .inl ⟨rfl, .inl rfl⟩)
  simp only [List.nil_append, List.drop_zero] at q4 q5
  rw [show ((0 : Nat) : Int) = 0 from rfl] at q1
  have hlenS := fun h κ => hL.lenS h κ
  rw [numsA_len] at hlenS
  have l0 : 0 < h'.length := hget_of_lt q2
  have pd : d.plain = true := q4.plain
  refine ⟨d, h'.set 0 (some (.cells [.int 9223372036854775807 1, .int 9223372036854775807 2, .int 18446744073709551615 0, d] (29 + 1))), ?_, ?_⟩
  · rw [rl_run, kPak_run _ _ _ _ _ _ (by kernel_rfl) (kPak_fk mx)]
    unfold zeroF at q1 q2
    simp only [guardC_b, guardC_u, beqB_tt, beqB_tf, beqB_ft, beqB_ff, min_eq, max_eq, vhO_kVH, ckN_eq, ckE_eq, List.length_set, ckX_same, bldS_int2, lt_agg, lt_tup, lt_int, lt_bool, lt_str, lt_nils, lt_sle, lt_nil, lt_slp, lt_ptp, kNrm_st, obindS, obindN, kThen_nrm, kThen_ret, kThen_exit, kOut_nrm, kOut_ret, kOut_exit, kIf_b, bqT, bqF, moveA_eq, pickA_eq, boxA_eq, newA_eq, cmp_eq, arith_eq, remA_eq, quoA_eq, notA_eq, negA_eq, cvI_eq, moveP_o, moveP_p, blkC_cells, load1_o, load1_p, loadG_o, loadG_p, store1_o, storeG_o, lenS_nils, lenS_sle, lenS_p, lenS_o, lenT_eq, idxS_p, idxS_o, idxT_eq, idxA_o, idxV1_eq, fld1_eq, fldG_eq, extA_eq, nilCk_o, nilCk_p, strAdd_eq, strCmp_eq, withX_some, withX_none, iaddE, isubE, imulE, iltE, igtE, ileE, igeE, ineE, ibeqE, hget_top, hget_zero, hget_succ, set_top, plains_nil, plains_cons, plain_int, plain_bool, plain_str, plain_nils, plain_slp, plain_sle, plain_nil, plain_pto, plain_ptp, plain_slo, nb_agg, nb_int, nb_bool, nb_str, nb_slp, nb_nils, nb_sle, nb_slo, cells_agg, cells_int, cells_bool, cells_str, List.length_cons, List.length_nil, List.length_append, List.take_succ_cons, List.take_zero, List.drop_succ_cons, List.drop_zero, List.cons_append, List.nil_append, List.append_nil, List.drop_nil, List.take_nil, List.getElem?_cons_zero, List.getElem?_cons_succ, List.set_cons_zero, List.set_cons_succ, Nat.reduceAdd, Nat.reduceMul, Nat.reduceSub, Nat.reduceLeDiff, Nat.reduceEqDiff, Nat.reduceLT, Nat.zero_add, Nat.add_zero, decide_true, decide_false, Bool.and_true, Bool.true_and, Bool.and_false, Bool.false_and, Bool.not_true, Bool.not_false, Nat.le_refl, reduceIte, kPak_0_eq, kPak_1_eq, kPak_2_eq, kPak_3_eq, kPak_4_eq, kPak_5_eq, kPak_6_eq, kPak_7_eq, kPak_8_eq, kPak_9_eq, kPak_10_eq, kPak_11_eq, kPak_12_eq, kPak_13_eq, kPak_14_eq, kPak_15_eq, kPak_16_eq, kPak_17_eq, kPak_18_eq, kPak_19_eq, kPak_20_eq, kPak_21_eq, kPak_22_eq, kPak_23_eq, -kPak_14_eq, hbld, hlenS, q1, q2, q3, pd]
    have hg : hget (h'.set 0 (some (.cells [.int 9223372036854775807 1, .int 9223372036854775807 2, .int 18446744073709551615 0, d] (29 + 1)))) 0 = some (.cells [.int 9223372036854775807 1, .int 9223372036854775807 2, .int 18446744073709551615 0, d] (29 + 1)) := hget_set_same l0 _
    have hr : resA (CL mx) (h'.set 0 (some (.cells [.int 9223372036854775807 1, .int 9223372036854775807 2, .int 18446744073709551615 0, d] (29 + 1)))) (kPak_T (.int 9223372036854775807 1) lv (.pto 0 0) (.pto 1 0) u7 lv (.int 9223372036854775807 (L.length : Int)) (.int 9223372036854775807 (L.length : Int)) u13) [.cell 4 29] = some [.agg [.int 9223372036854775807 1, .int 9223372036854775807 2, .int 18446744073709551615 0, d]] := by
      show (match vhO (loadG 4 (.pto 0 0) _ kVH), some [] with | some x, some l => some (x.1 :: l) | _, _ => none) = _
      rw [loadG_o, hg]
      rfl
    unfold endA
    simp only [hr]
    rfl
  · exact q5 _
end Go.Proofs.YtgjccdampinbgaaGreatDoor
