/- A reader's bytes, and the meter of a number: the runs. The functions' equations are printed by a program. -/
import Derived.Test.YtgjccdampinbgaaGreatDoorP1
namespace Go.Proofs.YtgjccdampinbgaaGreatDoor
set_option linter.unusedSimpArgs false
set_option linter.unusedVariables false
set_option linter.unnecessarySimpa false
noncomputable section
/- guipure/octet.New -/
def kNew_T (v0 v2 : AV) : Tm := (.nd 2 (.lf 0 v0) (.lf 2 v2))
section
variable (C : Cx) (run : Run) (lp : Lp) (s : St) (h : AH) (v0 v2 : AV)
def kNew_0 (C : Cx) : K := .reg [.mk (o1 moveA (.cst (.nil)))] [(2, 0)]
theorem kNew_0_eq : kx C run lp (kNew_0 C) ⟨kNew_T v0 v2, h⟩ = kNrm (moveA (.nil) h (fun a0 h => some (.st (kNew_T v0 a0) h))) := (rfl)
def kNew_1 (C : Cx) : K := .reg [.mk (o1 moveA (.tr 0)), .mk (oBuild (placeOf C [(0, 23), (1, 3)]) [.nils, .int 9223372036854775807 0] [(0, (.st 0))]), .mk (o1 (boxA 112) (.st 0)), .mk (o1 moveA (.st 0))] [(2, 0)]
theorem kNew_1_eq : kx C run lp (kNew_1 C) ⟨kNew_T v0 v2, h⟩ = kNrm (moveA v0 h (fun a0 h => bldA (placeOf C [(0, 23), (1, 3)]) [.nils, .int 9223372036854775807 0] [(0, a0)] h (fun a1 h => boxA 112 a1 h (fun a2 h => moveA a2 h (fun a3 h => some (.st (kNew_T v0 a3) h)))))) := (rfl)
def kNew_2 (_ : Cx) : K := .ex .ret
theorem kNew_2_eq : kx C run lp (kNew_2 C) s = some (.ret, s) := (rfl)
def kNew_3 (C : Cx) : K := .seq (kNew_1 C) (kNew_2 C)
theorem kNew_3_eq : kx C run lp (kNew_3 C) s = obind (kx C run lp (kNew_1 C) s) (kThen (kx C run lp (kNew_2 C))) := (rfl)
def kNew_4 (C : Cx) : K := .seq (kNew_0 C) (kNew_3 C)
theorem kNew_4_eq : kx C run lp (kNew_4 C) s = obind (kx C run lp (kNew_0 C) s) (kThen (kx C run lp (kNew_3 C))) := (rfl)
theorem kNew_ret : endA C [.tmp 2] (.ret, ⟨kNew_T v0 v2, h⟩) = some (v2, h) := (rfl)
theorem kNew_nrm : endA C [.tmp 2] (.nrm, ⟨kNew_T v0 v2, h⟩) = some (v2, h) := (rfl)
end
def kNew_F (C : Cx) : FK := ⟨kNew_4 C, [0, 2], 6, [.tmp 2]⟩
theorem kNew_run (C : Cx) (run : Run) (lp : Lp) (x0 : AV) (h : AH) (ho : C.orc 23 = none) (hf : fkAt C 23 = some (kNew_F C)) : runF C run lp 23 [x0] h = obind (kx C run lp (kNew_4 C) ⟨kNew_T x0 .bot, h⟩) (endA C [.tmp 2]) := by
  unfold runF; rw [ho, hf]; rfl
/- (*guipure/octet.Reader).Left -/
def kLef_T (v0 v2 : AV) : Tm := (.nd 2 (.lf 0 v0) (.lf 2 v2))
section
variable (C : Cx) (run : Run) (lp : Lp) (s : St) (h : AH) (v0 v2 : AV)
def kLef_0 (C : Cx) : K := .reg [.mk (o1 moveA (.cst (.int 9223372036854775807 0)))] [(2, 0)]
theorem kLef_0_eq : kx C run lp (kLef_0 C) ⟨kLef_T v0 v2, h⟩ = kNrm (moveA (.int 9223372036854775807 0) h (fun a0 h => some (.st (kLef_T v0 a0) h))) := (rfl)
def kLef_1 (C : Cx) : K := .draw [⟨.mk (o1 moveA (.tr 0)), [], false, false⟩, ⟨.mk (o1 nilCk (.st 0)), [], false, false⟩, ⟨.mk (o1 (moveP 0) (.st 0)), [], false, false⟩, ⟨.mk (o1 load1 (.st 0)), [], false, false⟩, ⟨.mk (o1 lenS (.st 0)), [], false, false⟩, ⟨.mk (o1 moveA (.tr 0)), [], false, false⟩, ⟨.mk (o1 nilCk (.st 0)), [], false, false⟩, ⟨.mk (o1 (moveP 1) (.st 0)), [], false, false⟩, ⟨.mk (o1 load1 (.st 0)), [], false, false⟩, ⟨.mk (o2 (arith isub) (.st 4) (.st 0)), [], false, false⟩, ⟨.mk (o1 moveA (.st 0)), [], false, false⟩] [] [(2, 0)]
theorem kLef_1_dr (r : Ex × St) (e : kNrm (obind (vhO (moveA v0 h (kVH))) (ckX h fun a0 => obind (vhO (nilCk a0 h (kVH))) (ckX h fun a1 => obind (vhO (moveP 0 a1 h (kVH))) (ckX h fun a2 => obind (vhO (load1 a2 h (kVH))) (ckX h fun a3 => obind (vhO (lenS a3 h (kVH))) (ckX h fun a4 => obind (vhO (moveA v0 h (kVH))) (ckX h fun a5 => obind (vhO (nilCk a5 h (kVH))) (ckX h fun a6 => obind (vhO (moveP 1 a6 h (kVH))) (ckX h fun a7 => obind (vhO (load1 a7 h (kVH))) (ckX h fun a8 => obind (vhO (arith isub a4 a8 h (kVH))) (ckX h fun a9 => obind (vhO (moveA a9 h (kVH))) (ckX h fun a10 => some (.st (kLef_T v0 a10) h))))))))))))) = some r) : kx C run lp (kLef_1 C) ⟨kLef_T v0 v2, h⟩ = some r := kdraw_still (by rfl) (by rfl) e
def kLef_2 (_ : Cx) : K := .ex .ret
theorem kLef_2_eq : kx C run lp (kLef_2 C) s = some (.ret, s) := (rfl)
def kLef_3 (C : Cx) : K := .seq (kLef_1 C) (kLef_2 C)
theorem kLef_3_eq : kx C run lp (kLef_3 C) s = obind (kx C run lp (kLef_1 C) s) (kThen (kx C run lp (kLef_2 C))) := (rfl)
def kLef_4 (C : Cx) : K := .seq (kLef_0 C) (kLef_3 C)
theorem kLef_4_eq : kx C run lp (kLef_4 C) s = obind (kx C run lp (kLef_0 C) s) (kThen (kx C run lp (kLef_3 C))) := (rfl)
theorem kLef_ret : endA C [.tmp 2] (.ret, ⟨kLef_T v0 v2, h⟩) = some (v2, h) := (rfl)
theorem kLef_nrm : endA C [.tmp 2] (.nrm, ⟨kLef_T v0 v2, h⟩) = some (v2, h) := (rfl)
end
def kLef_F (C : Cx) : FK := ⟨kLef_4 C, [0, 2], 13, [.tmp 2]⟩
theorem kLef_run (C : Cx) (run : Run) (lp : Lp) (x0 : AV) (h : AH) (ho : C.orc 24 = none) (hf : fkAt C 24 = some (kLef_F C)) : runF C run lp 24 [x0] h = obind (kx C run lp (kLef_4 C) ⟨kLef_T x0 .bot, h⟩) (endA C [.tmp 2]) := by
  unfold runF; rw [ho, hf]; rfl
/- (*guipure/octet.Reader).Peek -/
def kPek_T (v0 v2 v3 v6 : AV) : Tm := (.nd 3 (.nd 2 (.lf 0 v0) (.lf 2 v2)) (.nd 6 (.lf 3 v3) (.lf 6 v6)))
section
variable (C : Cx) (run : Run) (lp : Lp) (s : St) (h : AH) (v0 v2 v3 v6 : AV)
def kPek_0 (C : Cx) : K := .reg [.mk (o1 moveA (.cst (.int 255 0))), .mk (o1 moveA (.cst (.bool false)))] [(3, 0), (2, 1)]
theorem kPek_0_eq : kx C run lp (kPek_0 C) ⟨kPek_T v0 v2 v3 v6, h⟩ = kNrm (moveA (.int 255 0) h (fun a0 h => moveA (.bool false) h (fun a1 h => some (.st (kPek_T v0 a0 a1 v6) h)))) := (rfl)
def kPek_1 (C : Cx) : K := .reg [.mk (o1 moveA (.tr 0)), .mk (oCallF 24 [(.st 0)]), .mk (o2 (cmp ibeq) (.st 0) (.cst (.int 9223372036854775807 0)))] [(6, 0)]
theorem kPek_1_eq : kx C run lp (kPek_1 C) ⟨kPek_T v0 v2 v3 v6, h⟩ = kNrm (moveA v0 h (fun a0 h => withX (fun a1 h => cmp ibeq a1 (.int 9223372036854775807 0) h (fun a2 h => some (.st (kPek_T v0 v2 v3 a2) h))) (callA C run 24 [a0] h))) := (rfl)
def kPek_2 (C : Cx) : K := .reg [.mk (o1 moveA (.cst (.int 255 0))), .mk (o1 moveA (.cst (.bool false)))] [(3, 0), (2, 1)]
theorem kPek_2_eq : kx C run lp (kPek_2 C) ⟨kPek_T v0 v2 v3 v6, h⟩ = kNrm (moveA (.int 255 0) h (fun a0 h => moveA (.bool false) h (fun a1 h => some (.st (kPek_T v0 a0 a1 v6) h)))) := (rfl)
def kPek_3 (_ : Cx) : K := .ex .ret
theorem kPek_3_eq : kx C run lp (kPek_3 C) s = some (.ret, s) := (rfl)
def kPek_4 (C : Cx) : K := .seq (kPek_2 C) (kPek_3 C)
theorem kPek_4_eq : kx C run lp (kPek_4 C) s = obind (kx C run lp (kPek_2 C) s) (kThen (kx C run lp (kPek_3 C))) := (rfl)
def kPek_5 (_ : Cx) : K := .skip
theorem kPek_5_eq : kx C run lp (kPek_5 C) s = some (.nrm, s) := (rfl)
def kPek_6 (C : Cx) : K := .cond (.tr 6) (kPek_4 C) (kPek_5 C)
theorem kPek_6_eq : kx C run lp (kPek_6 C) ⟨kPek_T v0 v2 v3 v6, h⟩ = kIf v6 (kx C run lp (kPek_4 C)) (kx C run lp (kPek_5 C)) ⟨kPek_T v0 v2 v3 v6, h⟩ := (rfl)
def kPek_7 (C : Cx) : K := .seq (kPek_1 C) (kPek_6 C)
theorem kPek_7_eq : kx C run lp (kPek_7 C) s = obind (kx C run lp (kPek_1 C) s) (kThen (kx C run lp (kPek_6 C))) := (rfl)
def kPek_8 (C : Cx) : K := .draw [⟨.mk (o1 moveA (.tr 0)), [], false, false⟩, ⟨.mk (o1 nilCk (.st 0)), [], false, false⟩, ⟨.mk (o1 (moveP 0) (.st 0)), [], false, false⟩, ⟨.mk (o1 load1 (.st 0)), [], false, false⟩, ⟨.mk (o1 moveA (.tr 0)), [], false, false⟩, ⟨.mk (o1 nilCk (.st 0)), [], false, false⟩, ⟨.mk (o1 (moveP 1) (.st 0)), [], false, false⟩, ⟨.mk (o1 load1 (.st 0)), [], false, false⟩, ⟨.mk (o2 (idxS 1) (.st 4) (.st 0)), [], false, false⟩, ⟨.mk (o1 load1 (.st 0)), [], false, false⟩, ⟨.mk (o1 moveA (.st 0)), [], false, false⟩, ⟨.mk (o1 moveA (.cst (.bool true))), [], false, false⟩] [] [(3, 0), (2, 1)]
theorem kPek_8_dr (r : Ex × St) (e : kNrm (obind (vhO (moveA v0 h (kVH))) (ckX h fun a0 => obind (vhO (nilCk a0 h (kVH))) (ckX h fun a1 => obind (vhO (moveP 0 a1 h (kVH))) (ckX h fun a2 => obind (vhO (load1 a2 h (kVH))) (ckX h fun a3 => obind (vhO (moveA v0 h (kVH))) (ckX h fun a4 => obind (vhO (nilCk a4 h (kVH))) (ckX h fun a5 => obind (vhO (moveP 1 a5 h (kVH))) (ckX h fun a6 => obind (vhO (load1 a6 h (kVH))) (ckX h fun a7 => obind (vhO (idxS 1 a3 a7 h (kVH))) (ckX h fun a8 => obind (vhO (load1 a8 h (kVH))) (ckX h fun a9 => obind (vhO (moveA a9 h (kVH))) (ckX h fun a10 => obind (vhO (moveA (.bool true) h (kVH))) (ckX h fun a11 => some (.st (kPek_T v0 a10 a11 v6) h)))))))))))))) = some r) : kx C run lp (kPek_8 C) ⟨kPek_T v0 v2 v3 v6, h⟩ = some r := kdraw_still (by rfl) (by rfl) e
def kPek_9 (_ : Cx) : K := .ex .ret
theorem kPek_9_eq : kx C run lp (kPek_9 C) s = some (.ret, s) := (rfl)
def kPek_10 (C : Cx) : K := .seq (kPek_8 C) (kPek_9 C)
theorem kPek_10_eq : kx C run lp (kPek_10 C) s = obind (kx C run lp (kPek_8 C) s) (kThen (kx C run lp (kPek_9 C))) := (rfl)
def kPek_11 (C : Cx) : K := .seq (kPek_7 C) (kPek_10 C)
theorem kPek_11_eq : kx C run lp (kPek_11 C) s = obind (kx C run lp (kPek_7 C) s) (kThen (kx C run lp (kPek_10 C))) := (rfl)
def kPek_12 (C : Cx) : K := .seq (kPek_0 C) (kPek_11 C)
theorem kPek_12_eq : kx C run lp (kPek_12 C) s = obind (kx C run lp (kPek_0 C) s) (kThen (kx C run lp (kPek_11 C))) := (rfl)
theorem kPek_ret : endA C [.tmp 2, .tmp 3] (.ret, ⟨kPek_T v0 v2 v3 v6, h⟩) = some ((.tup [v2, v3]), h) := (rfl)
theorem kPek_nrm : endA C [.tmp 2, .tmp 3] (.nrm, ⟨kPek_T v0 v2 v3 v6, h⟩) = some ((.tup [v2, v3]), h) := (rfl)
end
def kPek_F (C : Cx) : FK := ⟨kPek_12 C, [0, 2, 3, 6], 17, [.tmp 2, .tmp 3]⟩
theorem kPek_run (C : Cx) (run : Run) (lp : Lp) (x0 : AV) (h : AH) (ho : C.orc 69 = none) (hf : fkAt C 69 = some (kPek_F C)) : runF C run lp 69 [x0] h = obind (kx C run lp (kPek_12 C) ⟨kPek_T x0 .bot .bot .bot, h⟩) (endA C [.tmp 2, .tmp 3]) := by
  unfold runF; rw [ho, hf]; rfl
/- (*guipure/octet.Reader).Byte -/
def kByt_T (v0 v2 v3 v4 v5 v12 : AV) : Tm := (.nd 4 (.nd 2 (.lf 0 v0) (.nd 3 (.lf 2 v2) (.lf 3 v3))) (.nd 5 (.lf 4 v4) (.nd 12 (.lf 5 v5) (.lf 12 v12))))
section
variable (C : Cx) (run : Run) (lp : Lp) (s : St) (h : AH) (v0 v2 v3 v4 v5 v12 : AV)
def kByt_0 (C : Cx) : K := .reg [.mk (o1 moveA (.cst (.int 255 0))), .mk (o1 moveA (.cst (.int 9223372036854775807 0)))] [(3, 0), (2, 1)]
theorem kByt_0_eq : kx C run lp (kByt_0 C) ⟨kByt_T v0 v2 v3 v4 v5 v12, h⟩ = kNrm (moveA (.int 255 0) h (fun a0 h => moveA (.int 9223372036854775807 0) h (fun a1 h => some (.st (kByt_T v0 a0 a1 v4 v5 v12) h)))) := (rfl)
def kByt_1 (C : Cx) : K := .reg [.mk (o1 moveA (.tr 0)), .mk (oCallF 69 [(.st 0)]), .mk (o1 moveA (.st 0)), .mk (o1 (extA 0) (.st 0)), .mk (o1 (extA 1) (.st 1)), .mk (o1 moveA (.st 1)), .mk (o1 moveA (.st 1))] [(5, 0), (4, 1)]
theorem kByt_1_eq : kx C run lp (kByt_1 C) ⟨kByt_T v0 v2 v3 v4 v5 v12, h⟩ = kNrm (moveA v0 h (fun a0 h => withX (fun a1 h => moveA a1 h (fun a2 h => extA 0 a2 h (fun a3 h => extA 1 a2 h (fun a4 h => moveA a3 h (fun a5 h => moveA a4 h (fun a6 h => some (.st (kByt_T v0 v2 v3 a5 a6 v12) h))))))) (callA C run 69 [a0] h))) := (rfl)
def kByt_2 (C : Cx) : K := .reg [.mk (o1 moveA (.tr 5)), .mk (o1 notA (.st 0))] [(12, 0)]
theorem kByt_2_eq : kx C run lp (kByt_2 C) ⟨kByt_T v0 v2 v3 v4 v5 v12, h⟩ = kNrm (moveA v5 h (fun a0 h => notA a0 h (fun a1 h => some (.st (kByt_T v0 v2 v3 v4 v5 a1) h)))) := (rfl)
def kByt_3 (C : Cx) : K := .reg [.mk (o1 moveA (.cst (.int 255 0))), .mk (o1 moveA (.cst (.int 9223372036854775807 10)))] [(3, 0), (2, 1)]
theorem kByt_3_eq : kx C run lp (kByt_3 C) ⟨kByt_T v0 v2 v3 v4 v5 v12, h⟩ = kNrm (moveA (.int 255 0) h (fun a0 h => moveA (.int 9223372036854775807 10) h (fun a1 h => some (.st (kByt_T v0 a0 a1 v4 v5 v12) h)))) := (rfl)
def kByt_4 (_ : Cx) : K := .ex .ret
theorem kByt_4_eq : kx C run lp (kByt_4 C) s = some (.ret, s) := (rfl)
def kByt_5 (C : Cx) : K := .seq (kByt_3 C) (kByt_4 C)
theorem kByt_5_eq : kx C run lp (kByt_5 C) s = obind (kx C run lp (kByt_3 C) s) (kThen (kx C run lp (kByt_4 C))) := (rfl)
def kByt_6 (_ : Cx) : K := .skip
theorem kByt_6_eq : kx C run lp (kByt_6 C) s = some (.nrm, s) := (rfl)
def kByt_7 (C : Cx) : K := .cond (.tr 12) (kByt_5 C) (kByt_6 C)
theorem kByt_7_eq : kx C run lp (kByt_7 C) ⟨kByt_T v0 v2 v3 v4 v5 v12, h⟩ = kIf v12 (kx C run lp (kByt_5 C)) (kx C run lp (kByt_6 C)) ⟨kByt_T v0 v2 v3 v4 v5 v12, h⟩ := (rfl)
def kByt_8 (C : Cx) : K := .seq (kByt_2 C) (kByt_7 C)
theorem kByt_8_eq : kx C run lp (kByt_8 C) s = obind (kx C run lp (kByt_2 C) s) (kThen (kx C run lp (kByt_7 C))) := (rfl)
def kByt_9 (C : Cx) : K := .reg [.mk (o1 moveA (.tr 0)), .mk (o1 nilCk (.st 0)), .mk (o1 (moveP 1) (.st 0)), .mk (o1 load1 (.st 0)), .mk (o2 (arith iadd) (.st 0) (.cst (.int 9223372036854775807 1))), .mk (o1 nilCk (.st 4)), .mk (o1 (moveP 1) (.st 0)), .mk (o2 store1 (.st 0) (.st 2))] []
theorem kByt_9_eq : kx C run lp (kByt_9 C) ⟨kByt_T v0 v2 v3 v4 v5 v12, h⟩ = kNrm (moveA v0 h (fun a0 h => nilCk a0 h (fun a1 h => moveP 1 a1 h (fun a2 h => load1 a2 h (fun a3 h => arith iadd a3 (.int 9223372036854775807 1) h (fun a4 h => nilCk a0 h (fun a5 h => moveP 1 a5 h (fun a6 h => store1 a6 a4 h (fun a7 h => some (.st (kByt_T v0 v2 v3 v4 v5 v12) h)))))))))) := (rfl)
def kByt_10 (C : Cx) : K := .reg [.mk (o1 moveA (.tr 4)), .mk (o1 moveA (.st 0)), .mk (o1 moveA (.cst (.int 9223372036854775807 0)))] [(3, 0), (2, 1)]
theorem kByt_10_eq : kx C run lp (kByt_10 C) ⟨kByt_T v0 v2 v3 v4 v5 v12, h⟩ = kNrm (moveA v4 h (fun a0 h => moveA a0 h (fun a1 h => moveA (.int 9223372036854775807 0) h (fun a2 h => some (.st (kByt_T v0 a1 a2 v4 v5 v12) h))))) := (rfl)
def kByt_11 (_ : Cx) : K := .ex .ret
theorem kByt_11_eq : kx C run lp (kByt_11 C) s = some (.ret, s) := (rfl)
def kByt_12 (C : Cx) : K := .seq (kByt_10 C) (kByt_11 C)
theorem kByt_12_eq : kx C run lp (kByt_12 C) s = obind (kx C run lp (kByt_10 C) s) (kThen (kx C run lp (kByt_11 C))) := (rfl)
def kByt_13 (C : Cx) : K := .seq (kByt_9 C) (kByt_12 C)
theorem kByt_13_eq : kx C run lp (kByt_13 C) s = obind (kx C run lp (kByt_9 C) s) (kThen (kx C run lp (kByt_12 C))) := (rfl)
def kByt_14 (C : Cx) : K := .seq (kByt_8 C) (kByt_13 C)
theorem kByt_14_eq : kx C run lp (kByt_14 C) s = obind (kx C run lp (kByt_8 C) s) (kThen (kx C run lp (kByt_13 C))) := (rfl)
def kByt_15 (C : Cx) : K := .seq (kByt_1 C) (kByt_14 C)
theorem kByt_15_eq : kx C run lp (kByt_15 C) s = obind (kx C run lp (kByt_1 C) s) (kThen (kx C run lp (kByt_14 C))) := (rfl)
def kByt_16 (C : Cx) : K := .seq (kByt_0 C) (kByt_15 C)
theorem kByt_16_eq : kx C run lp (kByt_16 C) s = obind (kx C run lp (kByt_0 C) s) (kThen (kx C run lp (kByt_15 C))) := (rfl)
theorem kByt_ret : endA C [.tmp 2, .tmp 3] (.ret, ⟨kByt_T v0 v2 v3 v4 v5 v12, h⟩) = some ((.tup [v2, v3]), h) := (rfl)
theorem kByt_nrm : endA C [.tmp 2, .tmp 3] (.nrm, ⟨kByt_T v0 v2 v3 v4 v5 v12, h⟩) = some ((.tup [v2, v3]), h) := (rfl)
end
def kByt_F (C : Cx) : FK := ⟨kByt_16 C, [0, 2, 3, 4, 5, 12], 21, [.tmp 2, .tmp 3]⟩
theorem kByt_run (C : Cx) (run : Run) (lp : Lp) (x0 : AV) (h : AH) (ho : C.orc 45 = none) (hf : fkAt C 45 = some (kByt_F C)) : runF C run lp 45 [x0] h = obind (kx C run lp (kByt_16 C) ⟨kByt_T x0 .bot .bot .bot .bot .bot, h⟩) (endA C [.tmp 2, .tmp 3]) := by
  unfold runF; rw [ho, hf]; rfl
/- (*guipure/leb.Meter).Step -/
def kStp_T (v0 v1 v4 v5 v6 v11 v23 v46 v62 : AV) : Tm := (.nd 6 (.nd 4 (.nd 1 (.lf 0 v0) (.lf 1 v1)) (.nd 5 (.lf 4 v4) (.lf 5 v5))) (.nd 23 (.nd 11 (.lf 6 v6) (.lf 11 v11)) (.nd 46 (.lf 23 v23) (.nd 62 (.lf 46 v46) (.lf 62 v62)))))
section
variable (C : Cx) (run : Run) (lp : Lp) (s : St) (h : AH) (v0 v1 v4 v5 v6 v11 v23 v46 v62 : AV)
def kStp_0 (C : Cx) : K := .reg [.mk (o1 moveA (.cst (.bool false))), .mk (o1 moveA (.cst (.int 9223372036854775807 0)))] [(5, 0), (4, 1)]
theorem kStp_0_eq : kx C run lp (kStp_0 C) ⟨kStp_T v0 v1 v4 v5 v6 v11 v23 v46 v62, h⟩ = kNrm (moveA (.bool false) h (fun a0 h => moveA (.int 9223372036854775807 0) h (fun a1 h => some (.st (kStp_T v0 v1 a0 a1 v6 v11 v23 v46 v62) h)))) := (rfl)
def kStp_1 (C : Cx) : K := .reg [.mk (o1 moveA (.tr 0)), .mk (o1 nilCk (.st 0)), .mk (o1 (moveP 2) (.st 0)), .mk (o1 load1 (.st 0)), .mk (o2 (cmp ibeq) (.st 0) (.cst (.int 9223372036854775807 10)))] [(11, 0)]
theorem kStp_1_eq : kx C run lp (kStp_1 C) ⟨kStp_T v0 v1 v4 v5 v6 v11 v23 v46 v62, h⟩ = kNrm (moveA v0 h (fun a0 h => nilCk a0 h (fun a1 h => moveP 2 a1 h (fun a2 h => load1 a2 h (fun a3 h => cmp ibeq a3 (.int 9223372036854775807 10) h (fun a4 h => some (.st (kStp_T v0 v1 v4 v5 v6 a4 v23 v46 v62) h))))))) := (rfl)
def kStp_2 (C : Cx) : K := .reg [.mk (o1 moveA (.cst (.bool false))), .mk (o1 moveA (.cst (.int 9223372036854775807 20)))] [(5, 0), (4, 1)]
theorem kStp_2_eq : kx C run lp (kStp_2 C) ⟨kStp_T v0 v1 v4 v5 v6 v11 v23 v46 v62, h⟩ = kNrm (moveA (.bool false) h (fun a0 h => moveA (.int 9223372036854775807 20) h (fun a1 h => some (.st (kStp_T v0 v1 a0 a1 v6 v11 v23 v46 v62) h)))) := (rfl)
def kStp_3 (_ : Cx) : K := .ex .ret
theorem kStp_3_eq : kx C run lp (kStp_3 C) s = some (.ret, s) := (rfl)
def kStp_4 (C : Cx) : K := .seq (kStp_2 C) (kStp_3 C)
theorem kStp_4_eq : kx C run lp (kStp_4 C) s = obind (kx C run lp (kStp_2 C) s) (kThen (kx C run lp (kStp_3 C))) := (rfl)
def kStp_5 (_ : Cx) : K := .skip
theorem kStp_5_eq : kx C run lp (kStp_5 C) s = some (.nrm, s) := (rfl)
def kStp_6 (C : Cx) : K := .cond (.tr 11) (kStp_4 C) (kStp_5 C)
theorem kStp_6_eq : kx C run lp (kStp_6 C) ⟨kStp_T v0 v1 v4 v5 v6 v11 v23 v46 v62, h⟩ = kIf v11 (kx C run lp (kStp_4 C)) (kx C run lp (kStp_5 C)) ⟨kStp_T v0 v1 v4 v5 v6 v11 v23 v46 v62, h⟩ := (rfl)
def kStp_7 (C : Cx) : K := .seq (kStp_1 C) (kStp_6 C)
theorem kStp_7_eq : kx C run lp (kStp_7 C) s = obind (kx C run lp (kStp_1 C) s) (kThen (kx C run lp (kStp_6 C))) := (rfl)
def kStp_8 (C : Cx) : K := .reg [.mk (o1 moveA (.tr 1)), .mk (o2 (bitA 255 255 Nat.land) (.st 0) (.cst (.int 255 127))), .mk (o1 (cvI 18446744073709551615) (.st 0)), .mk (o1 moveA (.st 0))] [(6, 0)]
theorem kStp_8_eq : kx C run lp (kStp_8 C) ⟨kStp_T v0 v1 v4 v5 v6 v11 v23 v46 v62, h⟩ = kNrm (moveA v1 h (fun a0 h => bitA 255 255 Nat.land a0 (.int 255 127) h (fun a1 h => cvI 18446744073709551615 a1 h (fun a2 h => moveA a2 h (fun a3 h => some (.st (kStp_T v0 v1 v4 v5 a3 v11 v23 v46 v62) h)))))) := (rfl)
def kStp_9 (C : Cx) : K := .reg [.mk (o1 moveA (.tr 0)), .mk (o1 nilCk (.st 0)), .mk (o1 (moveP 2) (.st 0)), .mk (o1 load1 (.st 0)), .mk (o2 (cmp ibeq) (.st 0) (.cst (.int 9223372036854775807 9))), .mk (o1 moveA (.st 0)), .mk (guardA (.st 0) true ((o1 moveA (.tr 1)))), .mk (guardA (.st 1) true ((o2 (cmp igt) (.st 0) (.cst (.int 255 1))))), .mk (o3 pickA (.st 2) (.st 0) (.cst (.bool false)))] [(23, 0)]
theorem kStp_9_eq : kx C run lp (kStp_9 C) ⟨kStp_T v0 v1 v4 v5 v6 v11 v23 v46 v62, h⟩ = kNrm (moveA v0 h (fun a0 h => nilCk a0 h (fun a1 h => moveP 2 a1 h (fun a2 h => load1 a2 h (fun a3 h => cmp ibeq a3 (.int 9223372036854775807 9) h (fun a4 h => moveA a4 h (fun a5 h => guardC a5 true (fun κ => moveA v1 h (κ)) h (fun a6 h => guardC a5 true (fun κ => cmp igt a6 (.int 255 1) h (κ)) h (fun a7 h => pickA a5 a7 (.bool false) h (fun a8 h => some (.st (kStp_T v0 v1 v4 v5 v6 v11 a8 v46 v62) h))))))))))) := (rfl)
def kStp_10 (C : Cx) : K := .reg [.mk (o1 moveA (.cst (.bool false))), .mk (o1 moveA (.cst (.int 9223372036854775807 20)))] [(5, 0), (4, 1)]
theorem kStp_10_eq : kx C run lp (kStp_10 C) ⟨kStp_T v0 v1 v4 v5 v6 v11 v23 v46 v62, h⟩ = kNrm (moveA (.bool false) h (fun a0 h => moveA (.int 9223372036854775807 20) h (fun a1 h => some (.st (kStp_T v0 v1 a0 a1 v6 v11 v23 v46 v62) h)))) := (rfl)
def kStp_11 (_ : Cx) : K := .ex .ret
theorem kStp_11_eq : kx C run lp (kStp_11 C) s = some (.ret, s) := (rfl)
def kStp_12 (C : Cx) : K := .seq (kStp_10 C) (kStp_11 C)
theorem kStp_12_eq : kx C run lp (kStp_12 C) s = obind (kx C run lp (kStp_10 C) s) (kThen (kx C run lp (kStp_11 C))) := (rfl)
def kStp_13 (_ : Cx) : K := .skip
theorem kStp_13_eq : kx C run lp (kStp_13 C) s = some (.nrm, s) := (rfl)
def kStp_14 (C : Cx) : K := .cond (.tr 23) (kStp_12 C) (kStp_13 C)
theorem kStp_14_eq : kx C run lp (kStp_14 C) ⟨kStp_T v0 v1 v4 v5 v6 v11 v23 v46 v62, h⟩ = kIf v23 (kx C run lp (kStp_12 C)) (kx C run lp (kStp_13 C)) ⟨kStp_T v0 v1 v4 v5 v6 v11 v23 v46 v62, h⟩ := (rfl)
def kStp_15 (C : Cx) : K := .seq (kStp_9 C) (kStp_14 C)
theorem kStp_15_eq : kx C run lp (kStp_15 C) s = obind (kx C run lp (kStp_9 C) s) (kThen (kx C run lp (kStp_14 C))) := (rfl)
def kStp_16 (C : Cx) : K := .draw [⟨.mk (o1 moveA (.tr 0)), [], false, false⟩, ⟨.mk (o1 nilCk (.st 0)), [], false, false⟩, ⟨.mk (o1 (moveP 1) (.st 0)), [], false, false⟩, ⟨.mk (o1 load1 (.st 0)), [], false, false⟩, ⟨.mk (o1 moveA (.tr 6)), [], false, false⟩, ⟨.mk (o1 moveA (.tr 0)), [], false, false⟩, ⟨.mk (o1 nilCk (.st 0)), [], false, false⟩, ⟨.mk (o1 (moveP 2) (.st 0)), [], false, false⟩, ⟨.mk (o1 load1 (.st 0)), [], false, false⟩, ⟨.mk (o2 (arith imul) (.cst (.int 9223372036854775807 7)) (.st 0)), [], false, false⟩, ⟨.mk (o2 (shlA 18446744073709551615 64) (.st 5) (.st 0)), [], false, false⟩, ⟨.mk (o2 (bitA 18446744073709551615 18446744073709551615 Nat.lor) (.st 7) (.st 0)), [], false, false⟩, ⟨.mk (o1 nilCk (.st 11)), [], false, false⟩, ⟨.mk (o1 (moveP 1) (.st 0)), [], false, false⟩, ⟨.mk (o2 store1 (.st 0) (.st 2)), [], false, true⟩] [] []
theorem kStp_16_ds (r : Ex × St) (e : kNrm (obind (vhO (moveA v0 h (kVH))) (ckN fun a0 => obind (vhO (nilCk a0 h (kVH))) (ckN fun a1 => obind (vhO (moveP 1 a1 h (kVH))) (ckN fun a2 => obind (vhO (load1 a2 h (kVH))) (ckN fun a3 => obind (vhO (moveA v6 h (kVH))) (ckN fun a4 => obind (vhO (moveA v0 h (kVH))) (ckN fun a5 => obind (vhO (nilCk a5 h (kVH))) (ckN fun a6 => obind (vhO (moveP 2 a6 h (kVH))) (ckN fun a7 => obind (vhO (load1 a7 h (kVH))) (ckN fun a8 => obind (vhO (arith imul (.int 9223372036854775807 7) a8 h (kVH))) (ckN fun a9 => obind (vhO (shlA 18446744073709551615 64 a4 a9 h (kVH))) (ckN fun a10 => obind (vhO (bitA 18446744073709551615 18446744073709551615 Nat.lor a3 a10 h (kVH))) (ckN fun a11 => obind (vhO (nilCk a0 h (kVH))) (ckN fun a12 => obind (vhO (moveP 1 a12 h (kVH))) (ckN fun a13 => obind (vhO (store1 a13 a11 h (kVH))) (ckE h fun a14 h => some (.st (kStp_T v0 v1 v4 v5 v6 v11 v23 v46 v62) h))))))))))))))))) = some r) : kx C run lp (kStp_16 C) ⟨kStp_T v0 v1 v4 v5 v6 v11 v23 v46 v62, h⟩ = some r := kdraw_seq (by rfl) e
def kStp_17 (C : Cx) : K := .reg [.mk (o1 moveA (.tr 0)), .mk (o1 nilCk (.st 0)), .mk (o1 (moveP 2) (.st 0)), .mk (o1 load1 (.st 0)), .mk (o2 (arith iadd) (.st 0) (.cst (.int 9223372036854775807 1))), .mk (o1 nilCk (.st 4)), .mk (o1 (moveP 2) (.st 0)), .mk (o2 store1 (.st 0) (.st 2))] []
theorem kStp_17_eq : kx C run lp (kStp_17 C) ⟨kStp_T v0 v1 v4 v5 v6 v11 v23 v46 v62, h⟩ = kNrm (moveA v0 h (fun a0 h => nilCk a0 h (fun a1 h => moveP 2 a1 h (fun a2 h => load1 a2 h (fun a3 h => arith iadd a3 (.int 9223372036854775807 1) h (fun a4 h => nilCk a0 h (fun a5 h => moveP 2 a5 h (fun a6 h => store1 a6 a4 h (fun a7 h => some (.st (kStp_T v0 v1 v4 v5 v6 v11 v23 v46 v62) h)))))))))) := (rfl)
def kStp_18 (C : Cx) : K := .reg [.mk (o1 moveA (.tr 1)), .mk (o2 (cmp ige) (.st 0) (.cst (.int 255 128)))] [(46, 0)]
theorem kStp_18_eq : kx C run lp (kStp_18 C) ⟨kStp_T v0 v1 v4 v5 v6 v11 v23 v46 v62, h⟩ = kNrm (moveA v1 h (fun a0 h => cmp ige a0 (.int 255 128) h (fun a1 h => some (.st (kStp_T v0 v1 v4 v5 v6 v11 v23 a1 v62) h)))) := (rfl)
def kStp_19 (C : Cx) : K := .reg [.mk (o1 moveA (.cst (.bool false))), .mk (o1 moveA (.cst (.int 9223372036854775807 0)))] [(5, 0), (4, 1)]
theorem kStp_19_eq : kx C run lp (kStp_19 C) ⟨kStp_T v0 v1 v4 v5 v6 v11 v23 v46 v62, h⟩ = kNrm (moveA (.bool false) h (fun a0 h => moveA (.int 9223372036854775807 0) h (fun a1 h => some (.st (kStp_T v0 v1 a0 a1 v6 v11 v23 v46 v62) h)))) := (rfl)
def kStp_20 (_ : Cx) : K := .ex .ret
theorem kStp_20_eq : kx C run lp (kStp_20 C) s = some (.ret, s) := (rfl)
def kStp_21 (C : Cx) : K := .seq (kStp_19 C) (kStp_20 C)
theorem kStp_21_eq : kx C run lp (kStp_21 C) s = obind (kx C run lp (kStp_19 C) s) (kThen (kx C run lp (kStp_20 C))) := (rfl)
def kStp_22 (_ : Cx) : K := .skip
theorem kStp_22_eq : kx C run lp (kStp_22 C) s = some (.nrm, s) := (rfl)
def kStp_23 (C : Cx) : K := .cond (.tr 46) (kStp_21 C) (kStp_22 C)
theorem kStp_23_eq : kx C run lp (kStp_23 C) ⟨kStp_T v0 v1 v4 v5 v6 v11 v23 v46 v62, h⟩ = kIf v46 (kx C run lp (kStp_21 C)) (kx C run lp (kStp_22 C)) ⟨kStp_T v0 v1 v4 v5 v6 v11 v23 v46 v62, h⟩ := (rfl)
def kStp_24 (C : Cx) : K := .seq (kStp_18 C) (kStp_23 C)
theorem kStp_24_eq : kx C run lp (kStp_24 C) s = obind (kx C run lp (kStp_18 C) s) (kThen (kx C run lp (kStp_23 C))) := (rfl)
def kStp_25 (C : Cx) : K := .reg [.mk (o1 moveA (.tr 0)), .mk (o1 nilCk (.st 0)), .mk (o1 (moveP 0) (.st 0)), .mk (o1 load1 (.st 0)), .mk (o1 notA (.st 0)), .mk (o1 moveA (.st 0)), .mk (guardA (.st 0) true ((o1 moveA (.tr 1)))), .mk (guardA (.st 1) true ((o2 (cmp ibeq) (.st 0) (.cst (.int 255 0))))), .mk (o3 pickA (.st 2) (.st 0) (.cst (.bool false))), .mk (o1 moveA (.st 0)), .mk (guardA (.st 0) true ((o1 moveA (.tr 0)))), .mk (guardA (.st 1) true ((o1 nilCk (.st 0)))), .mk (guardA (.st 2) true ((o1 (moveP 2) (.st 0)))), .mk (guardA (.st 3) true ((o1 load1 (.st 0)))), .mk (guardA (.st 4) true ((o2 (cmp igt) (.st 0) (.cst (.int 9223372036854775807 1))))), .mk (o3 pickA (.st 5) (.st 0) (.cst (.bool false)))] [(62, 0)]
theorem kStp_25_eq : kx C run lp (kStp_25 C) ⟨kStp_T v0 v1 v4 v5 v6 v11 v23 v46 v62, h⟩ = kNrm (moveA v0 h (fun a0 h => nilCk a0 h (fun a1 h => moveP 0 a1 h (fun a2 h => load1 a2 h (fun a3 h => notA a3 h (fun a4 h => moveA a4 h (fun a5 h => guardC a5 true (fun κ => moveA v1 h (κ)) h (fun a6 h => guardC a5 true (fun κ => cmp ibeq a6 (.int 255 0) h (κ)) h (fun a7 h => pickA a5 a7 (.bool false) h (fun a8 h => moveA a8 h (fun a9 h => guardC a9 true (fun κ => moveA v0 h (κ)) h (fun a10 h => guardC a9 true (fun κ => nilCk a10 h (κ)) h (fun a11 h => guardC a9 true (fun κ => moveP 2 a11 h (κ)) h (fun a12 h => guardC a9 true (fun κ => load1 a12 h (κ)) h (fun a13 h => guardC a9 true (fun κ => cmp igt a13 (.int 9223372036854775807 1) h (κ)) h (fun a14 h => pickA a9 a14 (.bool false) h (fun a15 h => some (.st (kStp_T v0 v1 v4 v5 v6 v11 v23 v46 a15) h)))))))))))))))))) := by kernel_rfl
def kStp_26 (C : Cx) : K := .reg [.mk (o1 moveA (.cst (.bool false))), .mk (o1 moveA (.cst (.int 9223372036854775807 21)))] [(5, 0), (4, 1)]
theorem kStp_26_eq : kx C run lp (kStp_26 C) ⟨kStp_T v0 v1 v4 v5 v6 v11 v23 v46 v62, h⟩ = kNrm (moveA (.bool false) h (fun a0 h => moveA (.int 9223372036854775807 21) h (fun a1 h => some (.st (kStp_T v0 v1 a0 a1 v6 v11 v23 v46 v62) h)))) := (rfl)
def kStp_27 (_ : Cx) : K := .ex .ret
theorem kStp_27_eq : kx C run lp (kStp_27 C) s = some (.ret, s) := (rfl)
def kStp_28 (C : Cx) : K := .seq (kStp_26 C) (kStp_27 C)
theorem kStp_28_eq : kx C run lp (kStp_28 C) s = obind (kx C run lp (kStp_26 C) s) (kThen (kx C run lp (kStp_27 C))) := (rfl)
def kStp_29 (_ : Cx) : K := .skip
theorem kStp_29_eq : kx C run lp (kStp_29 C) s = some (.nrm, s) := (rfl)
def kStp_30 (C : Cx) : K := .cond (.tr 62) (kStp_28 C) (kStp_29 C)
theorem kStp_30_eq : kx C run lp (kStp_30 C) ⟨kStp_T v0 v1 v4 v5 v6 v11 v23 v46 v62, h⟩ = kIf v62 (kx C run lp (kStp_28 C)) (kx C run lp (kStp_29 C)) ⟨kStp_T v0 v1 v4 v5 v6 v11 v23 v46 v62, h⟩ := (rfl)
def kStp_31 (C : Cx) : K := .seq (kStp_25 C) (kStp_30 C)
theorem kStp_31_eq : kx C run lp (kStp_31 C) s = obind (kx C run lp (kStp_25 C) s) (kThen (kx C run lp (kStp_30 C))) := (rfl)
def kStp_32 (C : Cx) : K := .reg [.mk (o1 moveA (.cst (.bool true))), .mk (o1 moveA (.cst (.int 9223372036854775807 0)))] [(5, 0), (4, 1)]
theorem kStp_32_eq : kx C run lp (kStp_32 C) ⟨kStp_T v0 v1 v4 v5 v6 v11 v23 v46 v62, h⟩ = kNrm (moveA (.bool true) h (fun a0 h => moveA (.int 9223372036854775807 0) h (fun a1 h => some (.st (kStp_T v0 v1 a0 a1 v6 v11 v23 v46 v62) h)))) := (rfl)
def kStp_33 (_ : Cx) : K := .ex .ret
theorem kStp_33_eq : kx C run lp (kStp_33 C) s = some (.ret, s) := (rfl)
def kStp_34 (C : Cx) : K := .seq (kStp_32 C) (kStp_33 C)
theorem kStp_34_eq : kx C run lp (kStp_34 C) s = obind (kx C run lp (kStp_32 C) s) (kThen (kx C run lp (kStp_33 C))) := (rfl)
def kStp_35 (C : Cx) : K := .seq (kStp_31 C) (kStp_34 C)
theorem kStp_35_eq : kx C run lp (kStp_35 C) s = obind (kx C run lp (kStp_31 C) s) (kThen (kx C run lp (kStp_34 C))) := (rfl)
def kStp_36 (C : Cx) : K := .seq (kStp_24 C) (kStp_35 C)
theorem kStp_36_eq : kx C run lp (kStp_36 C) s = obind (kx C run lp (kStp_24 C) s) (kThen (kx C run lp (kStp_35 C))) := (rfl)
def kStp_37 (C : Cx) : K := .seq (kStp_17 C) (kStp_36 C)
theorem kStp_37_eq : kx C run lp (kStp_37 C) s = obind (kx C run lp (kStp_17 C) s) (kThen (kx C run lp (kStp_36 C))) := (rfl)
def kStp_38 (C : Cx) : K := .seq (kStp_16 C) (kStp_37 C)
theorem kStp_38_eq : kx C run lp (kStp_38 C) s = obind (kx C run lp (kStp_16 C) s) (kThen (kx C run lp (kStp_37 C))) := (rfl)
def kStp_39 (C : Cx) : K := .seq (kStp_15 C) (kStp_38 C)
theorem kStp_39_eq : kx C run lp (kStp_39 C) s = obind (kx C run lp (kStp_15 C) s) (kThen (kx C run lp (kStp_38 C))) := (rfl)
def kStp_40 (C : Cx) : K := .seq (kStp_8 C) (kStp_39 C)
theorem kStp_40_eq : kx C run lp (kStp_40 C) s = obind (kx C run lp (kStp_8 C) s) (kThen (kx C run lp (kStp_39 C))) := (rfl)
def kStp_41 (C : Cx) : K := .seq (kStp_7 C) (kStp_40 C)
theorem kStp_41_eq : kx C run lp (kStp_41 C) s = obind (kx C run lp (kStp_7 C) s) (kThen (kx C run lp (kStp_40 C))) := (rfl)
def kStp_42 (C : Cx) : K := .seq (kStp_0 C) (kStp_41 C)
theorem kStp_42_eq : kx C run lp (kStp_42 C) s = obind (kx C run lp (kStp_0 C) s) (kThen (kx C run lp (kStp_41 C))) := (rfl)
theorem kStp_ret : endA C [.tmp 4, .tmp 5] (.ret, ⟨kStp_T v0 v1 v4 v5 v6 v11 v23 v46 v62, h⟩) = some ((.tup [v4, v5]), h) := (rfl)
theorem kStp_nrm : endA C [.tmp 4, .tmp 5] (.nrm, ⟨kStp_T v0 v1 v4 v5 v6 v11 v23 v46 v62, h⟩) = some ((.tup [v4, v5]), h) := (rfl)
end
def kStp_F (C : Cx) : FK := ⟨kStp_42 C, [0, 1, 4, 5, 6, 11, 23, 46, 62], 63, [.tmp 4, .tmp 5]⟩
theorem kStp_run (C : Cx) (run : Run) (lp : Lp) (x0 x1 : AV) (h : AH) (ho : C.orc 46 = none) (hf : fkAt C 46 = some (kStp_F C)) : runF C run lp 46 [x0, x1] h = obind (kx C run lp (kStp_42 C) ⟨kStp_T x0 x1 .bot .bot .bot .bot .bot .bot .bot, h⟩) (endA C [.tmp 4, .tmp 5]) := by
  unfold runF; rw [ho, hf]; rfl
/- (*guipure/leb.Meter).Value -/
def kVal_T (v0 v2 : AV) : Tm := (.nd 2 (.lf 0 v0) (.lf 2 v2))
section
variable (C : Cx) (run : Run) (lp : Lp) (s : St) (h : AH) (v0 v2 : AV)
def kVal_0 (C : Cx) : K := .reg [.mk (o1 moveA (.cst (.int 18446744073709551615 0)))] [(2, 0)]
theorem kVal_0_eq : kx C run lp (kVal_0 C) ⟨kVal_T v0 v2, h⟩ = kNrm (moveA (.int 18446744073709551615 0) h (fun a0 h => some (.st (kVal_T v0 a0) h))) := (rfl)
def kVal_1 (C : Cx) : K := .reg [.mk (o1 moveA (.tr 0)), .mk (o1 nilCk (.st 0)), .mk (o1 (moveP 1) (.st 0)), .mk (o1 load1 (.st 0)), .mk (o1 moveA (.st 0))] [(2, 0)]
theorem kVal_1_eq : kx C run lp (kVal_1 C) ⟨kVal_T v0 v2, h⟩ = kNrm (moveA v0 h (fun a0 h => nilCk a0 h (fun a1 h => moveP 1 a1 h (fun a2 h => load1 a2 h (fun a3 h => moveA a3 h (fun a4 h => some (.st (kVal_T v0 a4) h))))))) := (rfl)
def kVal_2 (_ : Cx) : K := .ex .ret
theorem kVal_2_eq : kx C run lp (kVal_2 C) s = some (.ret, s) := (rfl)
def kVal_3 (C : Cx) : K := .seq (kVal_1 C) (kVal_2 C)
theorem kVal_3_eq : kx C run lp (kVal_3 C) s = obind (kx C run lp (kVal_1 C) s) (kThen (kx C run lp (kVal_2 C))) := (rfl)
def kVal_4 (C : Cx) : K := .seq (kVal_0 C) (kVal_3 C)
theorem kVal_4_eq : kx C run lp (kVal_4 C) s = obind (kx C run lp (kVal_0 C) s) (kThen (kx C run lp (kVal_3 C))) := (rfl)
theorem kVal_ret : endA C [.tmp 2] (.ret, ⟨kVal_T v0 v2, h⟩) = some (v2, h) := (rfl)
theorem kVal_nrm : endA C [.tmp 2] (.nrm, ⟨kVal_T v0 v2, h⟩) = some (v2, h) := (rfl)
end
def kVal_F (C : Cx) : FK := ⟨kVal_4 C, [0, 2], 7, [.tmp 2]⟩
theorem kVal_run (C : Cx) (run : Run) (lp : Lp) (x0 : AV) (h : AH) (ho : C.orc 47 = none) (hf : fkAt C 47 = some (kVal_F C)) : runF C run lp 47 [x0] h = obind (kx C run lp (kVal_4 C) ⟨kVal_T x0 .bot, h⟩) (endA C [.tmp 2]) := by
  unfold runF; rw [ho, hf]; rfl

theorem kNew_fk (mx : Int) : fkAt (CL mx) 23 = some (kNew_F (CL mx)) := by kernel_rfl
theorem kLef_fk (mx : Int) : fkAt (CL mx) 24 = some (kLef_F (CL mx)) := by kernel_rfl
theorem kPek_fk (mx : Int) : fkAt (CL mx) 69 = some (kPek_F (CL mx)) := by kernel_rfl
theorem kByt_fk (mx : Int) : fkAt (CL mx) 45 = some (kByt_F (CL mx)) := by kernel_rfl
theorem kStp_fk (mx : Int) : fkAt (CL mx) 46 = some (kStp_F (CL mx)) := by kernel_rfl
theorem kVal_fk (mx : Int) : fkAt (CL mx) 47 = some (kVal_F (CL mx)) := by kernel_rfl
end
/-- A reader: its bytes, and how many were read. -/
def RdAt (h : AH) (r : Nat) (d : AV) (bs : List Nat) (at_ : Nat) : Prop := (∃ y, hget h r = some (.cells [d, .int 9223372036854775807 (at_ : Int)] y)) ∧ SlAt h d (bytesA bs) ∧ at_ ≤ bs.length ∧ bs.length ≤ 1000000
theorem left_run (mx : Int) (f : Nat) {h : AH} {r : Nat} {d : AV} {bs : List Nat} {a : Nat} (hr : RdAt h r d bs a) :
    (rl (CL mx) (f + 1)).run 24 [.pto r 0] h = some (.int 9223372036854775807 ((bs.length - a : Nat) : Int), h) := by
  obtain ⟨⟨y, hg⟩, hd, ha, hb⟩ := hr
  have hlt : decide (r < flen h) = true := by rw [decide_eq_true_iff, flen_eq]; exact hget_of_lt hg
  have hlen := fun h κ => hd.lenS h κ
  rw [bytesA_len] at hlen
  have w : wrapA 9223372036854775807 ((bs.length : Int) - (a : Int)) = ((bs.length - a : Nat) : Int) := by rw [wrapA_i64 (by omega) (by omega)]; omega
  have hdl := hd.lt
  have hdr := kLef_1_dr (CL mx) (rl (CL mx) f).run (rl (CL mx) f).lp h (.pto r 0) (.int 9223372036854775807 0) (.nrm, ⟨kLef_T (.pto r 0) (.int 9223372036854775807 ((bs.length - a : Nat) : Int)), h⟩) (by simp only [guardC_b, guardC_u, beqB_tt, beqB_tf, beqB_ft, beqB_ff, min_eq, max_eq, vhO_kVH, ckN_eq, ckE_eq, List.length_set, ckX_same, bldS_int2, lt_agg, lt_tup, lt_int, lt_bool, lt_str, lt_nils, lt_sle, lt_nil, lt_slp, lt_ptp, kNrm_st, obindS, obindN, kThen_nrm, kThen_ret, kThen_exit, kOut_nrm, kOut_ret, kOut_exit, kIf_b, bqT, bqF, moveA_eq, pickA_eq, boxA_eq, newA_eq, cmp_eq, arith_eq, remA_eq, quoA_eq, notA_eq, negA_eq, cvI_eq, moveP_o, moveP_p, blkC_cells, load1_o, load1_p, loadG_o, loadG_p, store1_o, storeG_o, lenS_nils, lenS_sle, lenS_p, lenS_o, lenT_eq, idxS_p, idxS_o, idxT_eq, idxA_o, idxV1_eq, fld1_eq, fldG_eq, extA_eq, nilCk_o, nilCk_p, strAdd_eq, strCmp_eq, withX_some, withX_none, iaddE, isubE, imulE, iltE, igtE, ileE, igeE, ineE, ibeqE, hget_top, hget_zero, hget_succ, set_top, plains_nil, plains_cons, plain_int, plain_bool, plain_str, plain_nils, plain_slp, plain_sle, plain_nil, plain_pto, plain_ptp, plain_slo, nb_agg, nb_int, nb_bool, nb_str, nb_slp, nb_nils, nb_sle, nb_slo, cells_agg, cells_int, cells_bool, cells_str, List.length_cons, List.length_nil, List.length_append, List.take_succ_cons, List.take_zero, List.drop_succ_cons, List.drop_zero, List.cons_append, List.nil_append, List.append_nil, List.drop_nil, List.take_nil, List.getElem?_cons_zero, List.getElem?_cons_succ, List.set_cons_zero, List.set_cons_succ, Nat.reduceAdd, Nat.reduceMul, Nat.reduceSub, Nat.reduceLeDiff, Nat.reduceEqDiff, Nat.reduceLT, Nat.zero_add, Nat.add_zero, decide_true, decide_false, Bool.and_true, Bool.true_and, Bool.and_false, Bool.false_and, Bool.not_true, Bool.not_false, Nat.le_refl, reduceIte, lt_pto, hg, hlt, hlen, hdl, w])
  rw [rl_run, kLef_run _ _ _ _ _ (by kernel_rfl) (kLef_fk mx)]
  simp only [guardC_b, guardC_u, beqB_tt, beqB_tf, beqB_ft, beqB_ff, min_eq, max_eq, vhO_kVH, ckN_eq, ckE_eq, List.length_set, ckX_same, bldS_int2, lt_agg, lt_tup, lt_int, lt_bool, lt_str, lt_nils, lt_sle, lt_nil, lt_slp, lt_ptp, kNrm_st, obindS, obindN, kThen_nrm, kThen_ret, kThen_exit, kOut_nrm, kOut_ret, kOut_exit, kIf_b, bqT, bqF, moveA_eq, pickA_eq, boxA_eq, newA_eq, cmp_eq, arith_eq, remA_eq, quoA_eq, notA_eq, negA_eq, cvI_eq, moveP_o, moveP_p, blkC_cells, load1_o, load1_p, loadG_o, loadG_p, store1_o, storeG_o, lenS_nils, lenS_sle, lenS_p, lenS_o, lenT_eq, idxS_p, idxS_o, idxT_eq, idxA_o, idxV1_eq, fld1_eq, fldG_eq, extA_eq, nilCk_o, nilCk_p, strAdd_eq, strCmp_eq, withX_some, withX_none, iaddE, isubE, imulE, iltE, igtE, ileE, igeE, ineE, ibeqE, hget_top, hget_zero, hget_succ, set_top, plains_nil, plains_cons, plain_int, plain_bool, plain_str, plain_nils, plain_slp, plain_sle, plain_nil, plain_pto, plain_ptp, plain_slo, nb_agg, nb_int, nb_bool, nb_str, nb_slp, nb_nils, nb_sle, nb_slo, cells_agg, cells_int, cells_bool, cells_str, List.length_cons, List.length_nil, List.length_append, List.take_succ_cons, List.take_zero, List.drop_succ_cons, List.drop_zero, List.cons_append, List.nil_append, List.append_nil, List.drop_nil, List.take_nil, List.getElem?_cons_zero, List.getElem?_cons_succ, List.set_cons_zero, List.set_cons_succ, Nat.reduceAdd, Nat.reduceMul, Nat.reduceSub, Nat.reduceLeDiff, Nat.reduceEqDiff, Nat.reduceLT, Nat.zero_add, Nat.add_zero, decide_true, decide_false, Bool.and_true, Bool.true_and, Bool.and_false, Bool.false_and, Bool.not_true, Bool.not_false, Nat.le_refl, reduceIte, kLef_0_eq, kLef_2_eq, kLef_3_eq, kLef_4_eq, kLef_ret, kLef_nrm, hdr]
theorem left_call (mx : Int) (f : Nat) {h : AH} {r : Nat} {d : AV} {bs : List Nat} {a : Nat} (hr : RdAt h r d bs a) :
    callA (CL mx) (rl (CL mx) (f + 1)).run 24 [.pto r 0] h = some (.int 9223372036854775807 ((bs.length - a : Nat) : Int), h) :=
  callA_own (by kernel_rfl) (by rfl) (by kernel_rfl) (left_run mx f hr)
theorem peek_run (mx : Int) (f : Nat) {h : AH} {r : Nat} {d : AV} {bs : List Nat} {a : Nat} (hr : RdAt h r d bs a) :
    (rl (CL mx) (f + 2)).run 69 [.pto r 0] h = some (.tup (match bs[a]? with | some c => [.int 255 (c : Int), .bool true] | none => [.int 255 0, .bool false]), h) := by
  have hleft := left_call mx f hr
  obtain ⟨⟨y, hg⟩, hd, ha, hb⟩ := hr
  rw [rl_run, kPek_run _ _ _ _ _ (by kernel_rfl) (kPek_fk mx)]
  by_cases hlt' : a < bs.length
  · obtain ⟨c, hc⟩ : ∃ c, bs[a]? = some c := ⟨_, List.getElem?_eq_getElem hlt'⟩
    rw [hc]
    have hz : decide (((bs.length - a : Nat) : Int) = 0) = false := by rw [decide_eq_false_iff_not]; omega
    have hlt : decide (r < flen h) = true := by rw [decide_eq_true_iff, flen_eq]; exact hget_of_lt hg
    have hdl := hd.lt
    obtain ⟨p, p1, p2, p3⟩ := hd.idx (i := a) (c := .int 255 (c : Int)) (by unfold bytesA; rw [List.getElem?_map, hc]; rfl)
    have hdr := kPek_8_dr (CL mx) (rl (CL mx) (f + 1)).run (rl (CL mx) (f + 1)).lp h (.pto r 0) (.int 255 0) (.bool false) (.bool false) (.nrm, ⟨kPek_T (.pto r 0) (.int 255 (c : Int)) (.bool true) (.bool false), h⟩) (by simp only [guardC_b, guardC_u, beqB_tt, beqB_tf, beqB_ft, beqB_ff, min_eq, max_eq, vhO_kVH, ckN_eq, ckE_eq, List.length_set, ckX_same, bldS_int2, lt_agg, lt_tup, lt_int, lt_bool, lt_str, lt_nils, lt_sle, lt_nil, lt_slp, lt_ptp, kNrm_st, obindS, obindN, kThen_nrm, kThen_ret, kThen_exit, kOut_nrm, kOut_ret, kOut_exit, kIf_b, bqT, bqF, moveA_eq, pickA_eq, boxA_eq, newA_eq, cmp_eq, arith_eq, remA_eq, quoA_eq, notA_eq, negA_eq, cvI_eq, moveP_o, moveP_p, blkC_cells, load1_o, load1_p, loadG_o, loadG_p, store1_o, storeG_o, lenS_nils, lenS_sle, lenS_p, lenS_o, lenT_eq, idxS_p, idxS_o, idxT_eq, idxA_o, idxV1_eq, fld1_eq, fldG_eq, extA_eq, nilCk_o, nilCk_p, strAdd_eq, strCmp_eq, withX_some, withX_none, iaddE, isubE, imulE, iltE, igtE, ileE, igeE, ineE, ibeqE, hget_top, hget_zero, hget_succ, set_top, plains_nil, plains_cons, plain_int, plain_bool, plain_str, plain_nils, plain_slp, plain_sle, plain_nil, plain_pto, plain_ptp, plain_slo, nb_agg, nb_int, nb_bool, nb_str, nb_slp, nb_nils, nb_sle, nb_slo, cells_agg, cells_int, cells_bool, cells_str, List.length_cons, List.length_nil, List.length_append, List.take_succ_cons, List.take_zero, List.drop_succ_cons, List.drop_zero, List.cons_append, List.nil_append, List.append_nil, List.drop_nil, List.take_nil, List.getElem?_cons_zero, List.getElem?_cons_succ, List.set_cons_zero, List.set_cons_succ, Nat.reduceAdd, Nat.reduceMul, Nat.reduceSub, Nat.reduceLeDiff, Nat.reduceEqDiff, Nat.reduceLT, Nat.zero_add, Nat.add_zero, decide_true, decide_false, Bool.and_true, Bool.true_and, Bool.and_false, Bool.false_and, Bool.not_true, Bool.not_false, Nat.le_refl, reduceIte, lt_pto, hg, hlt, hdl, p1, p2, p3])
    simp only [guardC_b, guardC_u, beqB_tt, beqB_tf, beqB_ft, beqB_ff, min_eq, max_eq, vhO_kVH, ckN_eq, ckE_eq, List.length_set, ckX_same, bldS_int2, lt_agg, lt_tup, lt_int, lt_bool, lt_str, lt_nils, lt_sle, lt_nil, lt_slp, lt_ptp, kNrm_st, obindS, obindN, kThen_nrm, kThen_ret, kThen_exit, kOut_nrm, kOut_ret, kOut_exit, kIf_b, bqT, bqF, moveA_eq, pickA_eq, boxA_eq, newA_eq, cmp_eq, arith_eq, remA_eq, quoA_eq, notA_eq, negA_eq, cvI_eq, moveP_o, moveP_p, blkC_cells, load1_o, load1_p, loadG_o, loadG_p, store1_o, storeG_o, lenS_nils, lenS_sle, lenS_p, lenS_o, lenT_eq, idxS_p, idxS_o, idxT_eq, idxA_o, idxV1_eq, fld1_eq, fldG_eq, extA_eq, nilCk_o, nilCk_p, strAdd_eq, strCmp_eq, withX_some, withX_none, iaddE, isubE, imulE, iltE, igtE, ileE, igeE, ineE, ibeqE, hget_top, hget_zero, hget_succ, set_top, plains_nil, plains_cons, plain_int, plain_bool, plain_str, plain_nils, plain_slp, plain_sle, plain_nil, plain_pto, plain_ptp, plain_slo, nb_agg, nb_int, nb_bool, nb_str, nb_slp, nb_nils, nb_sle, nb_slo, cells_agg, cells_int, cells_bool, cells_str, List.length_cons, List.length_nil, List.length_append, List.take_succ_cons, List.take_zero, List.drop_succ_cons, List.drop_zero, List.cons_append, List.nil_append, List.append_nil, List.drop_nil, List.take_nil, List.getElem?_cons_zero, List.getElem?_cons_succ, List.set_cons_zero, List.set_cons_succ, Nat.reduceAdd, Nat.reduceMul, Nat.reduceSub, Nat.reduceLeDiff, Nat.reduceEqDiff, Nat.reduceLT, Nat.zero_add, Nat.add_zero, decide_true, decide_false, Bool.and_true, Bool.true_and, Bool.and_false, Bool.false_and, Bool.not_true, Bool.not_false, Nat.le_refl, reduceIte, kPek_0_eq, kPek_1_eq, kPek_2_eq, kPek_3_eq, kPek_4_eq, kPek_5_eq, kPek_6_eq, kPek_7_eq, kPek_9_eq, kPek_10_eq, kPek_11_eq, kPek_12_eq, kPek_ret, kPek_nrm, hleft, hz, hdr]
  · have hc : bs[a]? = none := List.getElem?_eq_none (by omega)
    rw [hc]
    have hz : decide (((bs.length - a : Nat) : Int) = 0) = true := by rw [decide_eq_true_iff]; omega
    simp only [guardC_b, guardC_u, beqB_tt, beqB_tf, beqB_ft, beqB_ff, min_eq, max_eq, vhO_kVH, ckN_eq, ckE_eq, List.length_set, ckX_same, bldS_int2, lt_agg, lt_tup, lt_int, lt_bool, lt_str, lt_nils, lt_sle, lt_nil, lt_slp, lt_ptp, kNrm_st, obindS, obindN, kThen_nrm, kThen_ret, kThen_exit, kOut_nrm, kOut_ret, kOut_exit, kIf_b, bqT, bqF, moveA_eq, pickA_eq, boxA_eq, newA_eq, cmp_eq, arith_eq, remA_eq, quoA_eq, notA_eq, negA_eq, cvI_eq, moveP_o, moveP_p, blkC_cells, load1_o, load1_p, loadG_o, loadG_p, store1_o, storeG_o, lenS_nils, lenS_sle, lenS_p, lenS_o, lenT_eq, idxS_p, idxS_o, idxT_eq, idxA_o, idxV1_eq, fld1_eq, fldG_eq, extA_eq, nilCk_o, nilCk_p, strAdd_eq, strCmp_eq, withX_some, withX_none, iaddE, isubE, imulE, iltE, igtE, ileE, igeE, ineE, ibeqE, hget_top, hget_zero, hget_succ, set_top, plains_nil, plains_cons, plain_int, plain_bool, plain_str, plain_nils, plain_slp, plain_sle, plain_nil, plain_pto, plain_ptp, plain_slo, nb_agg, nb_int, nb_bool, nb_str, nb_slp, nb_nils, nb_sle, nb_slo, cells_agg, cells_int, cells_bool, cells_str, List.length_cons, List.length_nil, List.length_append, List.take_succ_cons, List.take_zero, List.drop_succ_cons, List.drop_zero, List.cons_append, List.nil_append, List.append_nil, List.drop_nil, List.take_nil, List.getElem?_cons_zero, List.getElem?_cons_succ, List.set_cons_zero, List.set_cons_succ, Nat.reduceAdd, Nat.reduceMul, Nat.reduceSub, Nat.reduceLeDiff, Nat.reduceEqDiff, Nat.reduceLT, Nat.zero_add, Nat.add_zero, decide_true, decide_false, Bool.and_true, Bool.true_and, Bool.and_false, Bool.false_and, Bool.not_true, Bool.not_false, Nat.le_refl, reduceIte, kPek_0_eq, kPek_1_eq, kPek_2_eq, kPek_3_eq, kPek_4_eq, kPek_5_eq, kPek_6_eq, kPek_7_eq, kPek_9_eq, kPek_10_eq, kPek_11_eq, kPek_12_eq, kPek_ret, kPek_nrm, hleft, hz]
theorem byte_run (mx : Int) (f : Nat) {h : AH} {r y : Nat} {d : AV} {bs : List Nat} {a : Nat} (hr : RdAt h r d bs a) (hg : hget h r = some (.cells [d, .int 9223372036854775807 (a : Int)] y)) :
    (rl (CL mx) (f + 3)).run 45 [.pto r 0] h = (match bs[a]? with
      | some c => some (.tup [.int 255 (c : Int), .int 9223372036854775807 0], h.set r (some (.cells [d, .int 9223372036854775807 ((a + 1 : Nat) : Int)] y)))
      | none => some (.tup [.int 255 0, .int 9223372036854775807 10], h)) := by
  have hpeek := callA_own (C := CL mx) (by kernel_rfl) (by rfl) (by kernel_rfl) (peek_run mx f hr)
  obtain ⟨_, hd, ha, hb⟩ := hr
  rw [rl_run, kByt_run _ _ _ _ _ (by kernel_rfl) (kByt_fk mx)]
  cases hc : bs[a]? with
  | some c =>
    rw [hc] at hpeek
    have w : wrapA 9223372036854775807 ((a : Int) + 1) = ((a + 1 : Nat) : Int) := by rw [wrapA_i64 (by omega) (by omega)]; push_cast; rfl
    simp only [guardC_b, guardC_u, beqB_tt, beqB_tf, beqB_ft, beqB_ff, min_eq, max_eq, vhO_kVH, ckN_eq, ckE_eq, List.length_set, ckX_same, bldS_int2, lt_agg, lt_tup, lt_int, lt_bool, lt_str, lt_nils, lt_sle, lt_nil, lt_slp, lt_ptp, kNrm_st, obindS, obindN, kThen_nrm, kThen_ret, kThen_exit, kOut_nrm, kOut_ret, kOut_exit, kIf_b, bqT, bqF, moveA_eq, pickA_eq, boxA_eq, newA_eq, cmp_eq, arith_eq, remA_eq, quoA_eq, notA_eq, negA_eq, cvI_eq, moveP_o, moveP_p, blkC_cells, load1_o, load1_p, loadG_o, loadG_p, store1_o, storeG_o, lenS_nils, lenS_sle, lenS_p, lenS_o, lenT_eq, idxS_p, idxS_o, idxT_eq, idxA_o, idxV1_eq, fld1_eq, fldG_eq, extA_eq, nilCk_o, nilCk_p, strAdd_eq, strCmp_eq, withX_some, withX_none, iaddE, isubE, imulE, iltE, igtE, ileE, igeE, ineE, ibeqE, hget_top, hget_zero, hget_succ, set_top, plains_nil, plains_cons, plain_int, plain_bool, plain_str, plain_nils, plain_slp, plain_sle, plain_nil, plain_pto, plain_ptp, plain_slo, nb_agg, nb_int, nb_bool, nb_str, nb_slp, nb_nils, nb_sle, nb_slo, cells_agg, cells_int, cells_bool, cells_str, List.length_cons, List.length_nil, List.length_append, List.take_succ_cons, List.take_zero, List.drop_succ_cons, List.drop_zero, List.cons_append, List.nil_append, List.append_nil, List.drop_nil, List.take_nil, List.getElem?_cons_zero, List.getElem?_cons_succ, List.set_cons_zero, List.set_cons_succ, Nat.reduceAdd, Nat.reduceMul, Nat.reduceSub, Nat.reduceLeDiff, Nat.reduceEqDiff, Nat.reduceLT, Nat.zero_add, Nat.add_zero, decide_true, decide_false, Bool.and_true, Bool.true_and, Bool.and_false, Bool.false_and, Bool.not_true, Bool.not_false, Nat.le_refl, reduceIte, kByt_0_eq, kByt_1_eq, kByt_2_eq, kByt_3_eq, kByt_4_eq, kByt_5_eq, kByt_6_eq, kByt_7_eq, kByt_8_eq, kByt_9_eq, kByt_10_eq, kByt_11_eq, kByt_12_eq, kByt_13_eq, kByt_14_eq, kByt_15_eq, kByt_16_eq, kByt_ret, kByt_nrm, hpeek, hg, w]
  | none =>
    rw [hc] at hpeek
    simp only [guardC_b, guardC_u, beqB_tt, beqB_tf, beqB_ft, beqB_ff, min_eq, max_eq, vhO_kVH, ckN_eq, ckE_eq, List.length_set, ckX_same, bldS_int2, lt_agg, lt_tup, lt_int, lt_bool, lt_str, lt_nils, lt_sle, lt_nil, lt_slp, lt_ptp, kNrm_st, obindS, obindN, kThen_nrm, kThen_ret, kThen_exit, kOut_nrm, kOut_ret, kOut_exit, kIf_b, bqT, bqF, moveA_eq, pickA_eq, boxA_eq, newA_eq, cmp_eq, arith_eq, remA_eq, quoA_eq, notA_eq, negA_eq, cvI_eq, moveP_o, moveP_p, blkC_cells, load1_o, load1_p, loadG_o, loadG_p, store1_o, storeG_o, lenS_nils, lenS_sle, lenS_p, lenS_o, lenT_eq, idxS_p, idxS_o, idxT_eq, idxA_o, idxV1_eq, fld1_eq, fldG_eq, extA_eq, nilCk_o, nilCk_p, strAdd_eq, strCmp_eq, withX_some, withX_none, iaddE, isubE, imulE, iltE, igtE, ileE, igeE, ineE, ibeqE, hget_top, hget_zero, hget_succ, set_top, plains_nil, plains_cons, plain_int, plain_bool, plain_str, plain_nils, plain_slp, plain_sle, plain_nil, plain_pto, plain_ptp, plain_slo, nb_agg, nb_int, nb_bool, nb_str, nb_slp, nb_nils, nb_sle, nb_slo, cells_agg, cells_int, cells_bool, cells_str, List.length_cons, List.length_nil, List.length_append, List.take_succ_cons, List.take_zero, List.drop_succ_cons, List.drop_zero, List.cons_append, List.nil_append, List.append_nil, List.drop_nil, List.take_nil, List.getElem?_cons_zero, List.getElem?_cons_succ, List.set_cons_zero, List.set_cons_succ, Nat.reduceAdd, Nat.reduceMul, Nat.reduceSub, Nat.reduceLeDiff, Nat.reduceEqDiff, Nat.reduceLT, Nat.zero_add, Nat.add_zero, decide_true, decide_false, Bool.and_true, Bool.true_and, Bool.and_false, Bool.false_and, Bool.not_true, Bool.not_false, Nat.le_refl, reduceIte, kByt_0_eq, kByt_1_eq, kByt_2_eq, kByt_3_eq, kByt_4_eq, kByt_5_eq, kByt_6_eq, kByt_7_eq, kByt_8_eq, kByt_9_eq, kByt_10_eq, kByt_11_eq, kByt_12_eq, kByt_13_eq, kByt_14_eq, kByt_15_eq, kByt_16_eq, kByt_ret, kByt_nrm, hpeek]
theorem byte_call (mx : Int) (f : Nat) {h : AH} {r y : Nat} {d : AV} {bs : List Nat} {a : Nat} (hr : RdAt h r d bs a) (hg : hget h r = some (.cells [d, .int 9223372036854775807 (a : Int)] y)) :
    callA (CL mx) (rl (CL mx) (f + 3)).run 45 [.pto r 0] h = (match bs[a]? with
      | some c => some (.tup [.int 255 (c : Int), .int 9223372036854775807 0], h.set r (some (.cells [d, .int 9223372036854775807 ((a + 1 : Nat) : Int)] y)))
      | none => some (.tup [.int 255 0, .int 9223372036854775807 10], h)) := by
  have := byte_run mx f hr hg
  cases hc : bs[a]? with
  | some c => rw [hc] at this; exact callA_own (by kernel_rfl) (by rfl) (by kernel_rfl) this
  | none => rw [hc] at this; exact callA_own (by kernel_rfl) (by rfl) (by kernel_rfl) this
/- the meter -/
theorem val_call (mx : Int) (f : Nat) {h : AH} {m y : Nat} {l : AV} {n c : Int} (hg : hget h m = some (.cells [l, .int 18446744073709551615 n, .int 9223372036854775807 c] y)) :
    callA (CL mx) (rl (CL mx) (f + 1)).run 47 [.pto m 0] h = some (.int 18446744073709551615 n, h) := by
  refine callA_own (by kernel_rfl) (by rfl) (by kernel_rfl) ?_
  rw [rl_run, kVal_run _ _ _ _ _ (by kernel_rfl) (kVal_fk mx)]
  simp only [guardC_b, guardC_u, beqB_tt, beqB_tf, beqB_ft, beqB_ff, min_eq, max_eq, vhO_kVH, ckN_eq, ckE_eq, List.length_set, ckX_same, bldS_int2, lt_agg, lt_tup, lt_int, lt_bool, lt_str, lt_nils, lt_sle, lt_nil, lt_slp, lt_ptp, kNrm_st, obindS, obindN, kThen_nrm, kThen_ret, kThen_exit, kOut_nrm, kOut_ret, kOut_exit, kIf_b, bqT, bqF, moveA_eq, pickA_eq, boxA_eq, newA_eq, cmp_eq, arith_eq, remA_eq, quoA_eq, notA_eq, negA_eq, cvI_eq, moveP_o, moveP_p, blkC_cells, load1_o, load1_p, loadG_o, loadG_p, store1_o, storeG_o, lenS_nils, lenS_sle, lenS_p, lenS_o, lenT_eq, idxS_p, idxS_o, idxT_eq, idxA_o, idxV1_eq, fld1_eq, fldG_eq, extA_eq, nilCk_o, nilCk_p, strAdd_eq, strCmp_eq, withX_some, withX_none, iaddE, isubE, imulE, iltE, igtE, ileE, igeE, ineE, ibeqE, hget_top, hget_zero, hget_succ, set_top, plains_nil, plains_cons, plain_int, plain_bool, plain_str, plain_nils, plain_slp, plain_sle, plain_nil, plain_pto, plain_ptp, plain_slo, nb_agg, nb_int, nb_bool, nb_str, nb_slp, nb_nils, nb_sle, nb_slo, cells_agg, cells_int, cells_bool, cells_str, List.length_cons, List.length_nil, List.length_append, List.take_succ_cons, List.take_zero, List.drop_succ_cons, List.drop_zero, List.cons_append, List.nil_append, List.append_nil, List.drop_nil, List.take_nil, List.getElem?_cons_zero, List.getElem?_cons_succ, List.set_cons_zero, List.set_cons_succ, Nat.reduceAdd, Nat.reduceMul, Nat.reduceSub, Nat.reduceLeDiff, Nat.reduceEqDiff, Nat.reduceLT, Nat.zero_add, Nat.add_zero, decide_true, decide_false, Bool.and_true, Bool.true_and, Bool.and_false, Bool.false_and, Bool.not_true, Bool.not_false, Nat.le_refl, reduceIte, kVal_0_eq, kVal_1_eq, kVal_2_eq, kVal_3_eq, kVal_4_eq, kVal_ret, kVal_nrm, hg]
theorem land127 (c : Nat) (hc : c < 256) : Nat.land c 127 = c % 128 := Nat.and_two_pow_sub_one_eq_mod c 7
theorem pow7 (k : Nat) : 2 ^ (7 * k) = 128 ^ k := by rw [Nat.pow_mul]
theorem pow128 {cnt : Nat} (h : cnt ≤ 9) : 128 ^ cnt ≤ 9223372036854775808 := by
  have : 128 ^ cnt ≤ 128 ^ 9 := Nat.pow_le_pow_right (by omega) h
  exact Nat.le_trans this (by decide)
/-- What is added. -/
theorem meter_or {acc cnt low : Nat} (h9 : cnt ≤ 9) (ha : acc < 128 ^ cnt) (hl : low < 128) (h1 : cnt = 9 → low ≤ 1) :
    low * 128 ^ cnt ≤ 9223372036854775808 * 1 + 9223372036854775807 ∧ Nat.lor acc (low * 128 ^ cnt) = acc + low * 128 ^ cnt ∧ acc + low * 128 ^ cnt ≤ 18446744073709551615 := by
  have hp : low * 128 ^ cnt ≤ 9223372036854775808 := by
    rcases Nat.lt_or_ge cnt 9 with h | h
    · have : 128 ^ cnt ≤ 128 ^ 8 := Nat.pow_le_pow_right (by omega) (by omega)
      calc low * 128 ^ cnt ≤ 127 * 128 ^ 8 := Nat.mul_le_mul (by omega) this
        _ ≤ _ := by decide
    · obtain rfl : cnt = 9 := by omega
      have := h1 rfl
      calc low * 128 ^ 9 ≤ 1 * 128 ^ 9 := Nat.mul_le_mul this (Nat.le_refl _)
        _ ≤ _ := by decide
  have h2 := pow128 h9
  refine ⟨by omega, ?_, by omega⟩
  have := Nat.two_pow_add_eq_or_of_lt (b := acc) (i := 7 * cnt) (by rw [pow7]; exact ha) low
  rw [pow7] at this
  show acc ||| low * 128 ^ cnt = _
  rw [Nat.or_comm, Nat.mul_comm low, ← this, Nat.add_comm]
theorem step_run (mx : Int) (f : Nat) {h : AH} {m y acc cnt c : Nat} (hg : hget h m = some (.cells [.bool true, .int 18446744073709551615 (acc : Int), .int 9223372036854775807 (cnt : Int)] y)) (hc : c < 256) (h9 : cnt ≤ 9) (ha : acc < 128 ^ cnt) :
    (rl (CL mx) (f + 1)).run 46 [.pto m 0, .int 255 (c : Int)] h =
      if cnt = 9 ∧ 1 < c then some (.tup [.bool false, .int 9223372036854775807 20], h)
      else some (.tup [.bool (decide (c < 128)), .int 9223372036854775807 0], h.set m (some (.cells [.bool true, .int 18446744073709551615 ((acc + c % 128 * 128 ^ cnt : Nat) : Int), .int 9223372036854775807 ((cnt + 1 : Nat) : Int)] y))) := by
  have hm : m < h.length := hget_of_lt hg
  have hlt : decide (m < flen h) = true := by rw [decide_eq_true_iff, flen_eq]; exact hm
  rw [rl_run, kStp_run _ _ _ _ _ _ (by kernel_rfl) (kStp_fk mx)]
  have n10 : decide ((cnt : Int) = 10) = false := by rw [decide_eq_false_iff_not]; omega
  have b1 : ∀ (h : AH) (κ : Ka), bitA 255 255 Nat.land (.int 255 (c : Int)) (.int 255 127) h κ = κ (.int 255 ((c % 128 : Nat) : Int)) h := fun h κ => by
    rw [bitA_eq, toU_nat (by omega), show toU 255 127 = 127 from toU_int (by decide) (by decide), land127 c hc, wrapA_nat (by omega)]
  have w1 : wrapA 18446744073709551615 ((c % 128 : Nat) : Int) = ((c % 128 : Nat) : Int) := wrapA_nat (by omega)
  by_cases h1 : cnt = 9 ∧ 1 < c
  · rw [if_pos h1]
    obtain ⟨rfl, h1⟩ := h1
    have d9 : decide (((9 : Nat) : Int) = 9) = true := by decide
    have d1 : decide ((1 : Int) < (c : Int)) = true := by rw [decide_eq_true_iff]; omega
    simp only [guardC_b, guardC_u, beqB_tt, beqB_tf, beqB_ft, beqB_ff, min_eq, max_eq, vhO_kVH, ckN_eq, ckE_eq, List.length_set, ckX_same, bldS_int2, lt_agg, lt_tup, lt_int, lt_bool, lt_str, lt_nils, lt_sle, lt_nil, lt_slp, lt_ptp, kNrm_st, obindS, obindN, kThen_nrm, kThen_ret, kThen_exit, kOut_nrm, kOut_ret, kOut_exit, kIf_b, bqT, bqF, moveA_eq, pickA_eq, boxA_eq, newA_eq, cmp_eq, arith_eq, remA_eq, quoA_eq, notA_eq, negA_eq, cvI_eq, moveP_o, moveP_p, blkC_cells, load1_o, load1_p, loadG_o, loadG_p, store1_o, storeG_o, lenS_nils, lenS_sle, lenS_p, lenS_o, lenT_eq, idxS_p, idxS_o, idxT_eq, idxA_o, idxV1_eq, fld1_eq, fldG_eq, extA_eq, nilCk_o, nilCk_p, strAdd_eq, strCmp_eq, withX_some, withX_none, iaddE, isubE, imulE, iltE, igtE, ileE, igeE, ineE, ibeqE, hget_top, hget_zero, hget_succ, set_top, plains_nil, plains_cons, plain_int, plain_bool, plain_str, plain_nils, plain_slp, plain_sle, plain_nil, plain_pto, plain_ptp, plain_slo, nb_agg, nb_int, nb_bool, nb_str, nb_slp, nb_nils, nb_sle, nb_slo, cells_agg, cells_int, cells_bool, cells_str, List.length_cons, List.length_nil, List.length_append, List.take_succ_cons, List.take_zero, List.drop_succ_cons, List.drop_zero, List.cons_append, List.nil_append, List.append_nil, List.drop_nil, List.take_nil, List.getElem?_cons_zero, List.getElem?_cons_succ, List.set_cons_zero, List.set_cons_succ, Nat.reduceAdd, Nat.reduceMul, Nat.reduceSub, Nat.reduceLeDiff, Nat.reduceEqDiff, Nat.reduceLT, Nat.zero_add, Nat.add_zero, decide_true, decide_false, Bool.and_true, Bool.true_and, Bool.and_false, Bool.false_and, Bool.not_true, Bool.not_false, Nat.le_refl, reduceIte, kStp_0_eq, kStp_1_eq, kStp_2_eq, kStp_3_eq, kStp_4_eq, kStp_5_eq, kStp_6_eq, kStp_7_eq, kStp_8_eq, kStp_9_eq, kStp_10_eq, kStp_11_eq, kStp_12_eq, kStp_13_eq, kStp_14_eq, kStp_15_eq, kStp_17_eq, kStp_18_eq, kStp_19_eq, kStp_20_eq, kStp_21_eq, kStp_22_eq, kStp_23_eq, kStp_24_eq, kStp_25_eq, kStp_26_eq, kStp_27_eq, kStp_28_eq, kStp_29_eq, kStp_30_eq, kStp_31_eq, kStp_32_eq, kStp_33_eq, kStp_34_eq, kStp_35_eq, kStp_36_eq, kStp_37_eq, kStp_38_eq, kStp_39_eq, kStp_40_eq, kStp_41_eq, kStp_42_eq, kStp_ret, kStp_nrm, hg, n10, b1, w1, d9, d1]
  · rw [if_neg h1]
    obtain ⟨o1, o2, o3⟩ := meter_or (low := c % 128) h9 ha (by omega) (by intro e; omega)
    have w7 : wrapA 9223372036854775807 (7 * (cnt : Int)) = ((7 * cnt : Nat) : Int) := by rw [wrapA_i64 (by omega) (by omega)]; push_cast; rfl
    have s7 : ∀ (h : AH) (κ : Ka), shlA 18446744073709551615 64 (.int 18446744073709551615 ((c % 128 : Nat) : Int)) (.int 9223372036854775807 ((7 * cnt : Nat) : Int)) h κ = κ (.int 18446744073709551615 ((c % 128 * 128 ^ cnt : Nat) : Int)) h := fun h κ => by
      rw [shlA_eq _ (by omega) (by omega), show ((7 * cnt : Nat) : Int).toNat = 7 * cnt from Int.toNat_natCast _, pow7, show ((c % 128 : Nat) : Int) * ((128 ^ cnt : Nat) : Int) = ((c % 128 * 128 ^ cnt : Nat) : Int) by push_cast; rfl, wrapA_nat (by omega)]
    have b2 : ∀ (h : AH) (κ : Ka), bitA 18446744073709551615 18446744073709551615 Nat.lor (.int 18446744073709551615 (acc : Int)) (.int 18446744073709551615 ((c % 128 * 128 ^ cnt : Nat) : Int)) h κ = κ (.int 18446744073709551615 ((acc + c % 128 * 128 ^ cnt : Nat) : Int)) h := fun h κ => by
      rw [bitA_eq, toU_nat (by omega), toU_nat (by omega), o2, wrapA_nat o3]
    have w2 : wrapA 9223372036854775807 ((cnt : Int) + 1) = ((cnt + 1 : Nat) : Int) := by rw [wrapA_i64 (by omega) (by omega)]; push_cast; rfl
    have hds := kStp_16_ds (CL mx) (rl (CL mx) f).run (rl (CL mx) f).lp h (.pto m 0) (.int 255 (c : Int)) (.bool false) (.int 9223372036854775807 0) (.int 18446744073709551615 ((c % 128 : Nat) : Int)) (.bool false) (.bool false) .bot .bot
      (.nrm, ⟨kStp_T (.pto m 0) (.int 255 (c : Int)) (.bool false) (.int 9223372036854775807 0) (.int 18446744073709551615 ((c % 128 : Nat) : Int)) (.bool false) (.bool false) .bot .bot, h.set m (some (.cells [.bool true, .int 18446744073709551615 ((acc + c % 128 * 128 ^ cnt : Nat) : Int), .int 9223372036854775807 (cnt : Int)] y))⟩)
      (by simp only [guardC_b, guardC_u, beqB_tt, beqB_tf, beqB_ft, beqB_ff, min_eq, max_eq, vhO_kVH, ckN_eq, ckE_eq, List.length_set, ckX_same, bldS_int2, lt_agg, lt_tup, lt_int, lt_bool, lt_str, lt_nils, lt_sle, lt_nil, lt_slp, lt_ptp, kNrm_st, obindS, obindN, kThen_nrm, kThen_ret, kThen_exit, kOut_nrm, kOut_ret, kOut_exit, kIf_b, bqT, bqF, moveA_eq, pickA_eq, boxA_eq, newA_eq, cmp_eq, arith_eq, remA_eq, quoA_eq, notA_eq, negA_eq, cvI_eq, moveP_o, moveP_p, blkC_cells, load1_o, load1_p, loadG_o, loadG_p, store1_o, storeG_o, lenS_nils, lenS_sle, lenS_p, lenS_o, lenT_eq, idxS_p, idxS_o, idxT_eq, idxA_o, idxV1_eq, fld1_eq, fldG_eq, extA_eq, nilCk_o, nilCk_p, strAdd_eq, strCmp_eq, withX_some, withX_none, iaddE, isubE, imulE, iltE, igtE, ileE, igeE, ineE, ibeqE, hget_top, hget_zero, hget_succ, set_top, plains_nil, plains_cons, plain_int, plain_bool, plain_str, plain_nils, plain_slp, plain_sle, plain_nil, plain_pto, plain_ptp, plain_slo, nb_agg, nb_int, nb_bool, nb_str, nb_slp, nb_nils, nb_sle, nb_slo, cells_agg, cells_int, cells_bool, cells_str, List.length_cons, List.length_nil, List.length_append, List.take_succ_cons, List.take_zero, List.drop_succ_cons, List.drop_zero, List.cons_append, List.nil_append, List.append_nil, List.drop_nil, List.take_nil, List.getElem?_cons_zero, List.getElem?_cons_succ, List.set_cons_zero, List.set_cons_succ, Nat.reduceAdd, Nat.reduceMul, Nat.reduceSub, Nat.reduceLeDiff, Nat.reduceEqDiff, Nat.reduceLT, Nat.zero_add, Nat.add_zero, decide_true, decide_false, Bool.and_true, Bool.true_and, Bool.and_false, Bool.false_and, Bool.not_true, Bool.not_false, Nat.le_refl, reduceIte, hg, w7, s7, b2])
    have hg2 : ∀ X, hget (h.set m (some X)) m = some X := fun X => hget_set_same hm _
    have c9 : decide ((cnt : Int) = 9) = decide (cnt = 9) := by congr 1; exact propext ⟨fun e => by omega, fun e => by omega⟩
    have fin : ∀ (b : Bool), decide ((128 : Int) ≤ (c : Int)) = !b → decide (c < 128) = b → True := fun _ _ _ => trivial
    by_cases hs : c < 128
    · have d128 : decide ((128 : Int) ≤ (c : Int)) = false := by rw [decide_eq_false_iff_not]; omega
      have d128' : decide (c < 128) = true := decide_eq_true hs
      rw [d128']
      by_cases h9' : cnt = 9
      · have d9 : decide ((cnt : Int) = 9) = true := by rw [c9]; exact decide_eq_true h9'
        have d1 : decide ((1 : Int) < (c : Int)) = false := by rw [decide_eq_false_iff_not]; omega
        simp only [guardC_b, guardC_u, beqB_tt, beqB_tf, beqB_ft, beqB_ff, min_eq, max_eq, vhO_kVH, ckN_eq, ckE_eq, List.length_set, ckX_same, bldS_int2, lt_agg, lt_tup, lt_int, lt_bool, lt_str, lt_nils, lt_sle, lt_nil, lt_slp, lt_ptp, kNrm_st, obindS, obindN, kThen_nrm, kThen_ret, kThen_exit, kOut_nrm, kOut_ret, kOut_exit, kIf_b, bqT, bqF, moveA_eq, pickA_eq, boxA_eq, newA_eq, cmp_eq, arith_eq, remA_eq, quoA_eq, notA_eq, negA_eq, cvI_eq, moveP_o, moveP_p, blkC_cells, load1_o, load1_p, loadG_o, loadG_p, store1_o, storeG_o, lenS_nils, lenS_sle, lenS_p, lenS_o, lenT_eq, idxS_p, idxS_o, idxT_eq, idxA_o, idxV1_eq, fld1_eq, fldG_eq, extA_eq, nilCk_o, nilCk_p, strAdd_eq, strCmp_eq, withX_some, withX_none, iaddE, isubE, imulE, iltE, igtE, ileE, igeE, ineE, ibeqE, hget_top, hget_zero, hget_succ, set_top, plains_nil, plains_cons, plain_int, plain_bool, plain_str, plain_nils, plain_slp, plain_sle, plain_nil, plain_pto, plain_ptp, plain_slo, nb_agg, nb_int, nb_bool, nb_str, nb_slp, nb_nils, nb_sle, nb_slo, cells_agg, cells_int, cells_bool, cells_str, List.length_cons, List.length_nil, List.length_append, List.take_succ_cons, List.take_zero, List.drop_succ_cons, List.drop_zero, List.cons_append, List.nil_append, List.append_nil, List.drop_nil, List.take_nil, List.getElem?_cons_zero, List.getElem?_cons_succ, List.set_cons_zero, List.set_cons_succ, Nat.reduceAdd, Nat.reduceMul, Nat.reduceSub, Nat.reduceLeDiff, Nat.reduceEqDiff, Nat.reduceLT, Nat.zero_add, Nat.add_zero, decide_true, decide_false, Bool.and_true, Bool.true_and, Bool.and_false, Bool.false_and, Bool.not_true, Bool.not_false, Nat.le_refl, reduceIte, kStp_0_eq, kStp_1_eq, kStp_2_eq, kStp_3_eq, kStp_4_eq, kStp_5_eq, kStp_6_eq, kStp_7_eq, kStp_8_eq, kStp_9_eq, kStp_10_eq, kStp_11_eq, kStp_12_eq, kStp_13_eq, kStp_14_eq, kStp_15_eq, kStp_17_eq, kStp_18_eq, kStp_19_eq, kStp_20_eq, kStp_21_eq, kStp_22_eq, kStp_23_eq, kStp_24_eq, kStp_25_eq, kStp_26_eq, kStp_27_eq, kStp_28_eq, kStp_29_eq, kStp_30_eq, kStp_31_eq, kStp_32_eq, kStp_33_eq, kStp_34_eq, kStp_35_eq, kStp_36_eq, kStp_37_eq, kStp_38_eq, kStp_39_eq, kStp_40_eq, kStp_41_eq, kStp_42_eq, kStp_ret, kStp_nrm, hg, n10, b1, w1, d9, d1, hds, hg2, w2, List.set_set, d128]
      · have d9 : decide ((cnt : Int) = 9) = false := by rw [c9]; exact decide_eq_false h9'
        simp only [guardC_b, guardC_u, beqB_tt, beqB_tf, beqB_ft, beqB_ff, min_eq, max_eq, vhO_kVH, ckN_eq, ckE_eq, List.length_set, ckX_same, bldS_int2, lt_agg, lt_tup, lt_int, lt_bool, lt_str, lt_nils, lt_sle, lt_nil, lt_slp, lt_ptp, kNrm_st, obindS, obindN, kThen_nrm, kThen_ret, kThen_exit, kOut_nrm, kOut_ret, kOut_exit, kIf_b, bqT, bqF, moveA_eq, pickA_eq, boxA_eq, newA_eq, cmp_eq, arith_eq, remA_eq, quoA_eq, notA_eq, negA_eq, cvI_eq, moveP_o, moveP_p, blkC_cells, load1_o, load1_p, loadG_o, loadG_p, store1_o, storeG_o, lenS_nils, lenS_sle, lenS_p, lenS_o, lenT_eq, idxS_p, idxS_o, idxT_eq, idxA_o, idxV1_eq, fld1_eq, fldG_eq, extA_eq, nilCk_o, nilCk_p, strAdd_eq, strCmp_eq, withX_some, withX_none, iaddE, isubE, imulE, iltE, igtE, ileE, igeE, ineE, ibeqE, hget_top, hget_zero, hget_succ, set_top, plains_nil, plains_cons, plain_int, plain_bool, plain_str, plain_nils, plain_slp, plain_sle, plain_nil, plain_pto, plain_ptp, plain_slo, nb_agg, nb_int, nb_bool, nb_str, nb_slp, nb_nils, nb_sle, nb_slo, cells_agg, cells_int, cells_bool, cells_str, List.length_cons, List.length_nil, List.length_append, List.take_succ_cons, List.take_zero, List.drop_succ_cons, List.drop_zero, List.cons_append, List.nil_append, List.append_nil, List.drop_nil, List.take_nil, List.getElem?_cons_zero, List.getElem?_cons_succ, List.set_cons_zero, List.set_cons_succ, Nat.reduceAdd, Nat.reduceMul, Nat.reduceSub, Nat.reduceLeDiff, Nat.reduceEqDiff, Nat.reduceLT, Nat.zero_add, Nat.add_zero, decide_true, decide_false, Bool.and_true, Bool.true_and, Bool.and_false, Bool.false_and, Bool.not_true, Bool.not_false, Nat.le_refl, reduceIte, kStp_0_eq, kStp_1_eq, kStp_2_eq, kStp_3_eq, kStp_4_eq, kStp_5_eq, kStp_6_eq, kStp_7_eq, kStp_8_eq, kStp_9_eq, kStp_10_eq, kStp_11_eq, kStp_12_eq, kStp_13_eq, kStp_14_eq, kStp_15_eq, kStp_17_eq, kStp_18_eq, kStp_19_eq, kStp_20_eq, kStp_21_eq, kStp_22_eq, kStp_23_eq, kStp_24_eq, kStp_25_eq, kStp_26_eq, kStp_27_eq, kStp_28_eq, kStp_29_eq, kStp_30_eq, kStp_31_eq, kStp_32_eq, kStp_33_eq, kStp_34_eq, kStp_35_eq, kStp_36_eq, kStp_37_eq, kStp_38_eq, kStp_39_eq, kStp_40_eq, kStp_41_eq, kStp_42_eq, kStp_ret, kStp_nrm, hg, n10, b1, w1, d9, hds, hg2, w2, List.set_set, d128]
    · have d128 : decide ((128 : Int) ≤ (c : Int)) = true := by rw [decide_eq_true_iff]; omega
      have d128' : decide (c < 128) = false := decide_eq_false hs
      rw [d128']
      have d9 : decide ((cnt : Int) = 9) = false := by rw [c9]; exact decide_eq_false (by omega)
      simp only [guardC_b, guardC_u, beqB_tt, beqB_tf, beqB_ft, beqB_ff, min_eq, max_eq, vhO_kVH, ckN_eq, ckE_eq, List.length_set, ckX_same, bldS_int2, lt_agg, lt_tup, lt_int, lt_bool, lt_str, lt_nils, lt_sle, lt_nil, lt_slp, lt_ptp, kNrm_st, obindS, obindN, kThen_nrm, kThen_ret, kThen_exit, kOut_nrm, kOut_ret, kOut_exit, kIf_b, bqT, bqF, moveA_eq, pickA_eq, boxA_eq, newA_eq, cmp_eq, arith_eq, remA_eq, quoA_eq, notA_eq, negA_eq, cvI_eq, moveP_o, moveP_p, blkC_cells, load1_o, load1_p, loadG_o, loadG_p, store1_o, storeG_o, lenS_nils, lenS_sle, lenS_p, lenS_o, lenT_eq, idxS_p, idxS_o, idxT_eq, idxA_o, idxV1_eq, fld1_eq, fldG_eq, extA_eq, nilCk_o, nilCk_p, strAdd_eq, strCmp_eq, withX_some, withX_none, iaddE, isubE, imulE, iltE, igtE, ileE, igeE, ineE, ibeqE, hget_top, hget_zero, hget_succ, set_top, plains_nil, plains_cons, plain_int, plain_bool, plain_str, plain_nils, plain_slp, plain_sle, plain_nil, plain_pto, plain_ptp, plain_slo, nb_agg, nb_int, nb_bool, nb_str, nb_slp, nb_nils, nb_sle, nb_slo, cells_agg, cells_int, cells_bool, cells_str, List.length_cons, List.length_nil, List.length_append, List.take_succ_cons, List.take_zero, List.drop_succ_cons, List.drop_zero, List.cons_append, List.nil_append, List.append_nil, List.drop_nil, List.take_nil, List.getElem?_cons_zero, List.getElem?_cons_succ, List.set_cons_zero, List.set_cons_succ, Nat.reduceAdd, Nat.reduceMul, Nat.reduceSub, Nat.reduceLeDiff, Nat.reduceEqDiff, Nat.reduceLT, Nat.zero_add, Nat.add_zero, decide_true, decide_false, Bool.and_true, Bool.true_and, Bool.and_false, Bool.false_and, Bool.not_true, Bool.not_false, Nat.le_refl, reduceIte, kStp_0_eq, kStp_1_eq, kStp_2_eq, kStp_3_eq, kStp_4_eq, kStp_5_eq, kStp_6_eq, kStp_7_eq, kStp_8_eq, kStp_9_eq, kStp_10_eq, kStp_11_eq, kStp_12_eq, kStp_13_eq, kStp_14_eq, kStp_15_eq, kStp_17_eq, kStp_18_eq, kStp_19_eq, kStp_20_eq, kStp_21_eq, kStp_22_eq, kStp_23_eq, kStp_24_eq, kStp_25_eq, kStp_26_eq, kStp_27_eq, kStp_28_eq, kStp_29_eq, kStp_30_eq, kStp_31_eq, kStp_32_eq, kStp_33_eq, kStp_34_eq, kStp_35_eq, kStp_36_eq, kStp_37_eq, kStp_38_eq, kStp_39_eq, kStp_40_eq, kStp_41_eq, kStp_42_eq, kStp_ret, kStp_nrm, hg, n10, b1, w1, d9, hds, hg2, w2, List.set_set, d128]
theorem step_call (mx : Int) (f : Nat) {h : AH} {m y acc cnt c : Nat} (hg : hget h m = some (.cells [.bool true, .int 18446744073709551615 (acc : Int), .int 9223372036854775807 (cnt : Int)] y)) (hc : c < 256) (h9 : cnt ≤ 9) (ha : acc < 128 ^ cnt) :
    callA (CL mx) (rl (CL mx) (f + 1)).run 46 [.pto m 0, .int 255 (c : Int)] h =
      if cnt = 9 ∧ 1 < c then some (.tup [.bool false, .int 9223372036854775807 20], h)
      else some (.tup [.bool (decide (c < 128)), .int 9223372036854775807 0], h.set m (some (.cells [.bool true, .int 18446744073709551615 ((acc + c % 128 * 128 ^ cnt : Nat) : Int), .int 9223372036854775807 ((cnt + 1 : Nat) : Int)] y))) := by
  have := step_run mx f hg hc h9 ha
  split at this
  · rename_i h1; rw [if_pos h1]; exact callA_own (by kernel_rfl) (by rfl) (by kernel_rfl) this
  · rename_i h1; rw [if_neg h1]; exact callA_own (by kernel_rfl) (by rfl) (by kernel_rfl) this
theorem new_run (mx : Int) (f : Nat) {h0 : AH} {d : AV} {cs : List AV} (hr0 : SlAt h0 d cs) :
    (rl (CL mx) (f + 1)).run 23 [d] h0 = some (.pto h0.length 0, h0 ++ [some (.cells [d, .int 9223372036854775807 0] (111 + 1))]) := by
  have hbld := fun h κ => bldA_of (h := h) (κ := κ) (place := placeOf (CL mx) [(0, 23), (1, 3)]) (z := [.nils, .int 9223372036854775807 0]) (ps := [(0, d)]) (cs := [d, .int 9223372036854775807 0]) (by
    show fillA _ [.nils, .int 9223372036854775807 0] [(0, d)] = _
    show bq (and d.nb (and (Nat.beq (flen d.cells) 1) (Nat.ble (Nat.add 0 1) (flen [AV.nils, .int 9223372036854775807 0])))) (some (setR [AV.nils, .int 9223372036854775807 0] 0 d.cells)) none = _
    rw [hr0.nb, hr0.cells]; rfl)
  rw [rl_run, kNew_run _ _ _ _ _ (by kernel_rfl) (kNew_fk mx)]
  simp only [guardC_b, guardC_u, beqB_tt, beqB_tf, beqB_ft, beqB_ff, min_eq, max_eq, vhO_kVH, ckN_eq, ckE_eq, List.length_set, ckX_same, bldS_int2, lt_agg, lt_tup, lt_int, lt_bool, lt_str, lt_nils, lt_sle, lt_nil, lt_slp, lt_ptp, kNrm_st, obindS, obindN, kThen_nrm, kThen_ret, kThen_exit, kOut_nrm, kOut_ret, kOut_exit, kIf_b, bqT, bqF, moveA_eq, pickA_eq, boxA_eq, newA_eq, cmp_eq, arith_eq, remA_eq, quoA_eq, notA_eq, negA_eq, cvI_eq, moveP_o, moveP_p, blkC_cells, load1_o, load1_p, loadG_o, loadG_p, store1_o, storeG_o, lenS_nils, lenS_sle, lenS_p, lenS_o, lenT_eq, idxS_p, idxS_o, idxT_eq, idxA_o, idxV1_eq, fld1_eq, fldG_eq, extA_eq, nilCk_o, nilCk_p, strAdd_eq, strCmp_eq, withX_some, withX_none, iaddE, isubE, imulE, iltE, igtE, ileE, igeE, ineE, ibeqE, hget_top, hget_zero, hget_succ, set_top, plains_nil, plains_cons, plain_int, plain_bool, plain_str, plain_nils, plain_slp, plain_sle, plain_nil, plain_pto, plain_ptp, plain_slo, nb_agg, nb_int, nb_bool, nb_str, nb_slp, nb_nils, nb_sle, nb_slo, cells_agg, cells_int, cells_bool, cells_str, List.length_cons, List.length_nil, List.length_append, List.take_succ_cons, List.take_zero, List.drop_succ_cons, List.drop_zero, List.cons_append, List.nil_append, List.append_nil, List.drop_nil, List.take_nil, List.getElem?_cons_zero, List.getElem?_cons_succ, List.set_cons_zero, List.set_cons_succ, Nat.reduceAdd, Nat.reduceMul, Nat.reduceSub, Nat.reduceLeDiff, Nat.reduceEqDiff, Nat.reduceLT, Nat.zero_add, Nat.add_zero, decide_true, decide_false, Bool.and_true, Bool.true_and, Bool.and_false, Bool.false_and, Bool.not_true, Bool.not_false, Nat.le_refl, reduceIte, kNew_0_eq, kNew_1_eq, kNew_2_eq, kNew_3_eq, kNew_4_eq, kNew_ret, kNew_nrm, hbld]
end Go.Proofs.YtgjccdampinbgaaGreatDoor
