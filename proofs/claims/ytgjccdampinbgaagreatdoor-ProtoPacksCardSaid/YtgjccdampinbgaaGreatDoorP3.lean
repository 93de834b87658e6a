/- The next number of a reader: its run. The function's equations are printed by a program. -/
import Derived.Test.YtgjccdampinbgaaGreatDoorP2
namespace Go.Proofs.YtgjccdampinbgaaGreatDoor
set_option linter.unusedSimpArgs false
set_option linter.unusedVariables false
set_option linter.unnecessarySimpa false
noncomputable section
/- guipure/leb.Read -/
def kRd_T (v0 v1 v4 v5 v6 v7 v8 v9 v10 v21 v29 v31 : AV) : Tm := (.nd 8 (.nd 5 (.nd 1 (.lf 0 v0) (.nd 4 (.lf 1 v1) (.lf 4 v4))) (.nd 6 (.lf 5 v5) (.nd 7 (.lf 6 v6) (.lf 7 v7)))) (.nd 21 (.nd 9 (.lf 8 v8) (.nd 10 (.lf 9 v9) (.lf 10 v10))) (.nd 29 (.lf 21 v21) (.nd 31 (.lf 29 v29) (.lf 31 v31)))))
section
variable (C : Cx) (run : Run) (lp : Lp) (s : St) (h : AH) (v0 v1 v4 v5 v6 v7 v8 v9 v10 v21 v29 v31 : AV)
def kRd_0 (C : Cx) : K := .reg [.mk (o1 moveA (.cst (.int 18446744073709551615 0))), .mk (o1 moveA (.cst (.int 9223372036854775807 0)))] [(5, 0), (4, 1)]
theorem kRd_0_eq : kx C run lp (kRd_0 C) ⟨kRd_T v0 v1 v4 v5 v6 v7 v8 v9 v10 v21 v29 v31, h⟩ = kNrm (moveA (.int 18446744073709551615 0) h (fun a0 h => moveA (.int 9223372036854775807 0) h (fun a1 h => some (.st (kRd_T v0 v1 a0 a1 v6 v7 v8 v9 v10 v21 v29 v31) h)))) := (rfl)
def kRd_1 (C : Cx) : K := .reg [.mk (o1 moveA (.tr 1)), .mk (oBuild (placeOf C [(0, 4), (1, 27), (2, 3)]) [.bool false, .int 18446744073709551615 0, .int 9223372036854775807 0] [(0, (.st 0))]), .mk (oAlloc 114 [.bool false, .int 18446744073709551615 0, .int 9223372036854775807 0]), .mk (o2 (storeG 3) (.st 0) (.st 1))] [(6, 1)]
theorem kRd_1_eq : kx C run lp (kRd_1 C) ⟨kRd_T v0 v1 v4 v5 v6 v7 v8 v9 v10 v21 v29 v31, h⟩ = kNrm (moveA v1 h (fun a0 h => bldA (placeOf C [(0, 4), (1, 27), (2, 3)]) [.bool false, .int 18446744073709551615 0, .int 9223372036854775807 0] [(0, a0)] h (fun a1 h => newA h (.cells [.bool false, .int 18446744073709551615 0, .int 9223372036854775807 0] 114) (fun a2 h => storeG 3 a2 a1 h (fun a3 h => some (.st (kRd_T v0 v1 v4 v5 a2 v7 v8 v9 v10 v21 v29 v31) h)))))) := (rfl)
def kRd_2 (C : Cx) : K := .reg [.mk (o1 moveA (.tr 0)), .mk (o1 nilCk (.st 0)), .mk (o1 (loadG 2) (.st 0)), .mk (oAlloc 112 [.nils, .int 9223372036854775807 0]), .mk (o2 (storeG 2) (.st 0) (.st 1))] [(7, 1)]
theorem kRd_2_eq : kx C run lp (kRd_2 C) ⟨kRd_T v0 v1 v4 v5 v6 v7 v8 v9 v10 v21 v29 v31, h⟩ = kNrm (moveA v0 h (fun a0 h => nilCk a0 h (fun a1 h => loadG 2 a1 h (fun a2 h => newA h (.cells [.nils, .int 9223372036854775807 0] 112) (fun a3 h => storeG 2 a3 a2 h (fun a4 h => some (.st (kRd_T v0 v1 v4 v5 v6 a3 v8 v9 v10 v21 v29 v31) h))))))) := (rfl)
def kRd_3 (C : Cx) : K := .reg [.mk (oCallF 45 [(.tr 7)]), .mk (o1 moveA (.st 0)), .mk (o1 (extA 0) (.st 0)), .mk (o1 (extA 1) (.st 1)), .mk (o1 moveA (.st 1)), .mk (o1 moveA (.st 1))] [(9, 0), (8, 1)]
theorem kRd_3_eq : kx C run lp (kRd_3 C) ⟨kRd_T v0 v1 v4 v5 v6 v7 v8 v9 v10 v21 v29 v31, h⟩ = kNrm (withX (fun a0 h => moveA a0 h (fun a1 h => extA 0 a1 h (fun a2 h => extA 1 a1 h (fun a3 h => moveA a2 h (fun a4 h => moveA a3 h (fun a5 h => some (.st (kRd_T v0 v1 v4 v5 v6 v7 a4 a5 v10 v21 v29 v31) h))))))) (callA C run 45 [v7] h)) := (rfl)
def kRd_4 (C : Cx) : K := .reg [.mk (o1 moveA (.tr 9)), .mk (o2 (cmp ine) (.st 0) (.cst (.int 9223372036854775807 0)))] [(21, 0)]
theorem kRd_4_eq : kx C run lp (kRd_4 C) ⟨kRd_T v0 v1 v4 v5 v6 v7 v8 v9 v10 v21 v29 v31, h⟩ = kNrm (moveA v9 h (fun a0 h => cmp ine a0 (.int 9223372036854775807 0) h (fun a1 h => some (.st (kRd_T v0 v1 v4 v5 v6 v7 v8 v9 v10 a1 v29 v31) h)))) := (rfl)
def kRd_5 (C : Cx) : K := .reg [.mk (o1 moveA (.tr 9)), .mk (o1 moveA (.cst (.int 18446744073709551615 0))), .mk (o1 moveA (.st 1))] [(5, 0), (4, 1)]
theorem kRd_5_eq : kx C run lp (kRd_5 C) ⟨kRd_T v0 v1 v4 v5 v6 v7 v8 v9 v10 v21 v29 v31, h⟩ = kNrm (moveA v9 h (fun a0 h => moveA (.int 18446744073709551615 0) h (fun a1 h => moveA a0 h (fun a2 h => some (.st (kRd_T v0 v1 a1 a2 v6 v7 v8 v9 v10 v21 v29 v31) h))))) := (rfl)
def kRd_6 (_ : Cx) : K := .ex .ret
theorem kRd_6_eq : kx C run lp (kRd_6 C) s = some (.ret, s) := (rfl)
def kRd_7 (C : Cx) : K := .seq (kRd_5 C) (kRd_6 C)
theorem kRd_7_eq : kx C run lp (kRd_7 C) s = obind (kx C run lp (kRd_5 C) s) (kThen (kx C run lp (kRd_6 C))) := (rfl)
def kRd_8 (_ : Cx) : K := .skip
theorem kRd_8_eq : kx C run lp (kRd_8 C) s = some (.nrm, s) := (rfl)
def kRd_9 (C : Cx) : K := .cond (.tr 21) (kRd_7 C) (kRd_8 C)
theorem kRd_9_eq : kx C run lp (kRd_9 C) ⟨kRd_T v0 v1 v4 v5 v6 v7 v8 v9 v10 v21 v29 v31, h⟩ = kIf v21 (kx C run lp (kRd_7 C)) (kx C run lp (kRd_8 C)) ⟨kRd_T v0 v1 v4 v5 v6 v7 v8 v9 v10 v21 v29 v31, h⟩ := (rfl)
def kRd_10 (C : Cx) : K := .seq (kRd_4 C) (kRd_9 C)
theorem kRd_10_eq : kx C run lp (kRd_10 C) s = obind (kx C run lp (kRd_4 C) s) (kThen (kx C run lp (kRd_9 C))) := (rfl)
def kRd_11 (C : Cx) : K := .reg [.mk (o1 moveA (.tr 8)), .mk (oCallF 46 [(.tr 6), (.st 0)]), .mk (o1 moveA (.st 0)), .mk (o1 (extA 0) (.st 0)), .mk (o1 (extA 1) (.st 1)), .mk (o1 moveA (.st 1)), .mk (o1 moveA (.st 1))] [(9, 0), (10, 1)]
theorem kRd_11_eq : kx C run lp (kRd_11 C) ⟨kRd_T v0 v1 v4 v5 v6 v7 v8 v9 v10 v21 v29 v31, h⟩ = kNrm (moveA v8 h (fun a0 h => withX (fun a1 h => moveA a1 h (fun a2 h => extA 0 a2 h (fun a3 h => extA 1 a2 h (fun a4 h => moveA a3 h (fun a5 h => moveA a4 h (fun a6 h => some (.st (kRd_T v0 v1 v4 v5 v6 v7 v8 a6 a5 v21 v29 v31) h))))))) (callA C run 46 [v6, a0] h))) := (rfl)
def kRd_12 (C : Cx) : K := .reg [.mk (o1 moveA (.tr 9)), .mk (o2 (cmp ine) (.st 0) (.cst (.int 9223372036854775807 0)))] [(29, 0)]
theorem kRd_12_eq : kx C run lp (kRd_12 C) ⟨kRd_T v0 v1 v4 v5 v6 v7 v8 v9 v10 v21 v29 v31, h⟩ = kNrm (moveA v9 h (fun a0 h => cmp ine a0 (.int 9223372036854775807 0) h (fun a1 h => some (.st (kRd_T v0 v1 v4 v5 v6 v7 v8 v9 v10 v21 a1 v31) h)))) := (rfl)
def kRd_13 (C : Cx) : K := .reg [.mk (o1 moveA (.tr 9)), .mk (o1 moveA (.cst (.int 18446744073709551615 0))), .mk (o1 moveA (.st 1))] [(5, 0), (4, 1)]
theorem kRd_13_eq : kx C run lp (kRd_13 C) ⟨kRd_T v0 v1 v4 v5 v6 v7 v8 v9 v10 v21 v29 v31, h⟩ = kNrm (moveA v9 h (fun a0 h => moveA (.int 18446744073709551615 0) h (fun a1 h => moveA a0 h (fun a2 h => some (.st (kRd_T v0 v1 a1 a2 v6 v7 v8 v9 v10 v21 v29 v31) h))))) := (rfl)
def kRd_14 (_ : Cx) : K := .ex .ret
theorem kRd_14_eq : kx C run lp (kRd_14 C) s = some (.ret, s) := (rfl)
def kRd_15 (C : Cx) : K := .seq (kRd_13 C) (kRd_14 C)
theorem kRd_15_eq : kx C run lp (kRd_15 C) s = obind (kx C run lp (kRd_13 C) s) (kThen (kx C run lp (kRd_14 C))) := (rfl)
def kRd_16 (_ : Cx) : K := .skip
theorem kRd_16_eq : kx C run lp (kRd_16 C) s = some (.nrm, s) := (rfl)
def kRd_17 (C : Cx) : K := .cond (.tr 29) (kRd_15 C) (kRd_16 C)
theorem kRd_17_eq : kx C run lp (kRd_17 C) ⟨kRd_T v0 v1 v4 v5 v6 v7 v8 v9 v10 v21 v29 v31, h⟩ = kIf v29 (kx C run lp (kRd_15 C)) (kx C run lp (kRd_16 C)) ⟨kRd_T v0 v1 v4 v5 v6 v7 v8 v9 v10 v21 v29 v31, h⟩ := (rfl)
def kRd_18 (C : Cx) : K := .seq (kRd_12 C) (kRd_17 C)
theorem kRd_18_eq : kx C run lp (kRd_18 C) s = obind (kx C run lp (kRd_12 C) s) (kThen (kx C run lp (kRd_17 C))) := (rfl)
def kRd_19 (C : Cx) : K := .reg [.mk (o1 moveA (.tr 10))] [(31, 0)]
theorem kRd_19_eq : kx C run lp (kRd_19 C) ⟨kRd_T v0 v1 v4 v5 v6 v7 v8 v9 v10 v21 v29 v31, h⟩ = kNrm (moveA v10 h (fun a0 h => some (.st (kRd_T v0 v1 v4 v5 v6 v7 v8 v9 v10 v21 v29 a0) h))) := (rfl)
def kRd_20 (C : Cx) : K := .reg [.mk (o1 moveA (.tr 0)), .mk (o1 (loadG 2) (.tr 7)), .mk (o1 nilCk (.st 1)), .mk (o2 (storeG 2) (.st 0) (.st 1))] []
theorem kRd_20_eq : kx C run lp (kRd_20 C) ⟨kRd_T v0 v1 v4 v5 v6 v7 v8 v9 v10 v21 v29 v31, h⟩ = kNrm (moveA v0 h (fun a0 h => loadG 2 v7 h (fun a1 h => nilCk a0 h (fun a2 h => storeG 2 a2 a1 h (fun a3 h => some (.st (kRd_T v0 v1 v4 v5 v6 v7 v8 v9 v10 v21 v29 v31) h)))))) := (rfl)
def kRd_21 (C : Cx) : K := .reg [.mk (oCallF 47 [(.tr 6)]), .mk (o1 moveA (.st 0)), .mk (o1 moveA (.cst (.int 9223372036854775807 0)))] [(5, 0), (4, 1)]
theorem kRd_21_eq : kx C run lp (kRd_21 C) ⟨kRd_T v0 v1 v4 v5 v6 v7 v8 v9 v10 v21 v29 v31, h⟩ = kNrm (withX (fun a0 h => moveA a0 h (fun a1 h => moveA (.int 9223372036854775807 0) h (fun a2 h => some (.st (kRd_T v0 v1 a1 a2 v6 v7 v8 v9 v10 v21 v29 v31) h)))) (callA C run 47 [v6] h)) := (rfl)
def kRd_22 (_ : Cx) : K := .ex .ret
theorem kRd_22_eq : kx C run lp (kRd_22 C) s = some (.ret, s) := (rfl)
def kRd_23 (C : Cx) : K := .seq (kRd_21 C) (kRd_22 C)
theorem kRd_23_eq : kx C run lp (kRd_23 C) s = obind (kx C run lp (kRd_21 C) s) (kThen (kx C run lp (kRd_22 C))) := (rfl)
def kRd_24 (C : Cx) : K := .seq (kRd_20 C) (kRd_23 C)
theorem kRd_24_eq : kx C run lp (kRd_24 C) s = obind (kx C run lp (kRd_20 C) s) (kThen (kx C run lp (kRd_23 C))) := (rfl)
def kRd_25 (_ : Cx) : K := .skip
theorem kRd_25_eq : kx C run lp (kRd_25 C) s = some (.nrm, s) := (rfl)
def kRd_26 (C : Cx) : K := .cond (.tr 31) (kRd_24 C) (kRd_25 C)
theorem kRd_26_eq : kx C run lp (kRd_26 C) ⟨kRd_T v0 v1 v4 v5 v6 v7 v8 v9 v10 v21 v29 v31, h⟩ = kIf v31 (kx C run lp (kRd_24 C)) (kx C run lp (kRd_25 C)) ⟨kRd_T v0 v1 v4 v5 v6 v7 v8 v9 v10 v21 v29 v31, h⟩ := (rfl)
def kRd_27 (C : Cx) : K := .seq (kRd_19 C) (kRd_26 C)
theorem kRd_27_eq : kx C run lp (kRd_27 C) s = obind (kx C run lp (kRd_19 C) s) (kThen (kx C run lp (kRd_26 C))) := (rfl)
def kRd_28 (C : Cx) : K := .seq (kRd_18 C) (kRd_27 C)
theorem kRd_28_eq : kx C run lp (kRd_28 C) s = obind (kx C run lp (kRd_18 C) s) (kThen (kx C run lp (kRd_27 C))) := (rfl)
def kRd_29 (C : Cx) : K := .seq (kRd_11 C) (kRd_28 C)
theorem kRd_29_eq : kx C run lp (kRd_29 C) s = obind (kx C run lp (kRd_11 C) s) (kThen (kx C run lp (kRd_28 C))) := (rfl)
def kRd_30 (C : Cx) : K := .seq (kRd_10 C) (kRd_29 C)
theorem kRd_30_eq : kx C run lp (kRd_30 C) s = obind (kx C run lp (kRd_10 C) s) (kThen (kx C run lp (kRd_29 C))) := (rfl)
def kRd_31 (C : Cx) : K := .seq (kRd_3 C) (kRd_30 C)
theorem kRd_31_eq : kx C run lp (kRd_31 C) s = obind (kx C run lp (kRd_3 C) s) (kThen (kx C run lp (kRd_30 C))) := (rfl)
def kRd_32 (C : Cx) : K := .block 1 (kRd_31 C)
theorem kRd_32_eq : kx C run lp (kRd_32 C) s = obind (kx C run lp (kRd_31 C) s) (kOut 1) := (rfl)
def kRd_33 (C : Cx) : K := .loop (kRd_32 C)
theorem kRd_33_eq : kx C run lp (kRd_33 C) s = lp (kRd_32 C) s := (rfl)
def kRd_34 (C : Cx) : K := .block 0 (kRd_33 C)
theorem kRd_34_eq : kx C run lp (kRd_34 C) s = obind (kx C run lp (kRd_33 C) s) (kOut 0) := (rfl)
def kRd_35 (C : Cx) : K := .seq (kRd_2 C) (kRd_34 C)
theorem kRd_35_eq : kx C run lp (kRd_35 C) s = obind (kx C run lp (kRd_2 C) s) (kThen (kx C run lp (kRd_34 C))) := (rfl)
def kRd_36 (C : Cx) : K := .seq (kRd_1 C) (kRd_35 C)
theorem kRd_36_eq : kx C run lp (kRd_36 C) s = obind (kx C run lp (kRd_1 C) s) (kThen (kx C run lp (kRd_35 C))) := (rfl)
def kRd_37 (C : Cx) : K := .seq (kRd_0 C) (kRd_36 C)
theorem kRd_37_eq : kx C run lp (kRd_37 C) s = obind (kx C run lp (kRd_0 C) s) (kThen (kx C run lp (kRd_36 C))) := (rfl)
theorem kRd_ret : endA C [.tmp 4, .tmp 5] (.ret, ⟨kRd_T v0 v1 v4 v5 v6 v7 v8 v9 v10 v21 v29 v31, h⟩) = some ((.tup [v4, v5]), h) := (rfl)
theorem kRd_nrm : endA C [.tmp 4, .tmp 5] (.nrm, ⟨kRd_T v0 v1 v4 v5 v6 v7 v8 v9 v10 v21 v29 v31, h⟩) = some ((.tup [v4, v5]), h) := (rfl)
end
def kRd_F (C : Cx) : FK := ⟨kRd_37 C, [0, 1, 4, 5, 6, 7, 8, 9, 10, 21, 29, 31], 36, [.tmp 4, .tmp 5]⟩
theorem kRd_run (C : Cx) (run : Run) (lp : Lp) (x0 x1 : AV) (h : AH) (ho : C.orc 25 = none) (hf : fkAt C 25 = some (kRd_F C)) : runF C run lp 25 [x0, x1] h = obind (kx C run lp (kRd_37 C) ⟨kRd_T x0 x1 .bot .bot .bot .bot .bot .bot .bot .bot .bot .bot, h⟩) (endA C [.tmp 4, .tmp 5]) := by
  unfold runF; rw [ho, hf]; rfl

theorem kRd_fk (mx : Int) : fkAt (CL mx) 25 = some (kRd_F (CL mx)) := by kernel_rfl
/-- A number's bytes: what is wrong (0: nothing), the number, how many it has. -/
def dec : Nat → Nat → List Nat → Nat × Nat × Nat
  | _, _, [] => (10, 0, 0)
  | acc, cnt, c :: r => if cnt = 9 ∧ 1 < c then (20, 0, 0) else if c < 128 then (0, acc + c % 128 * 128 ^ cnt, cnt + 1) else dec (acc + c % 128 * 128 ^ cnt) (cnt + 1) r
end
theorem dec_many : ∀ (l : List Nat) (acc cnt : Nat), (dec acc cnt l).1 = 0 → cnt + 1 ≤ (dec acc cnt l).2.2 ∧ (dec acc cnt l).2.2 ≤ cnt + l.length
  | [], acc, cnt, h => by simp [dec] at h
  | c :: r, acc, cnt, h => by
    unfold dec at h ⊢
    split
    · rename_i h1; rw [if_pos h1] at h; simp at h
    · rename_i h1
      rw [if_neg h1] at h
      split
      · simp
      · rename_i h2
        rw [if_neg h2] at h
        have := dec_many r _ _ h
        simp; omega
theorem dec_zero : ∀ (l : List Nat) (acc cnt : Nat), (dec acc cnt l).1 ≠ 0 → (dec acc cnt l).2.1 = 0
  | [], acc, cnt, h => rfl
  | c :: r, acc, cnt, h => by
    unfold dec at h ⊢
    split
    · rfl
    · rename_i h1
      rw [if_neg h1] at h
      split
      · rename_i h2; rw [if_pos h2] at h; simp at h
      · rename_i h2
        rw [if_neg h2] at h
        exact dec_zero r _ _ h
theorem two_get0 (H : AH) (x y : Option Blk) : hget (H ++ [x, y]) H.length = x := by rw [hget_eq]; simp
theorem two_get1 (H : AH) (x y : Option Blk) : hget (H ++ [x, y]) (H.length + 1) = y := by rw [hget_eq]; simp
theorem two_set0 (H : AH) (x y z : Option Blk) : (H ++ [x, y]).set H.length z = H ++ [z, y] := by rw [List.set_append_right _ _ (Nat.le_refl _)]; simp
theorem two_set1 (H : AH) (x y z : Option Blk) : (H ++ [x, y]).set (H.length + 1) z = H ++ [x, z] := by rw [List.set_append_right _ _ (by omega)]; simp
def mtr (acc cnt : Nat) : Option Blk := some (.cells [.bool true, .int 18446744073709551615 (acc : Int), .int 9223372036854775807 (cnt : Int)] (113 + 1))
def lok (d : AV) (a : Nat) : Option Blk := some (.cells [d, .int 9223372036854775807 (a : Int)] (111 + 1))
/-- What a reading leaves. -/
def RdPost (mx : Int) (H : AH) (r yr a0 : Nat) (d : AV) (res : Nat × Nat × Nat) (a : Nat) (x : Option (Ex × St)) : Prop :=
  ∃ s, x = some (.ret, s) ∧ endA (CL mx) [.tmp 4, .tmp 5] (.ret, s) = some (.tup [.int 18446744073709551615 (res.2.1 : Int), .int 9223372036854775807 (res.1 : Int)], s.h) ∧
    H.length ≤ s.h.length ∧ (∀ i, i < H.length → i ≠ r → hget s.h i = hget H i) ∧ hget s.h r = some (.cells [d, .int 9223372036854775807 ((if res.1 = 0 then a else a0 : Nat) : Int)] yr)
theorem rd_round (mx : Int) {H : AH} {r yr a0 : Nat} {d : AV} {bs : List Nat} (hd : SlAt H d (bytesA bs)) (hb : bs.length ≤ 1000000) (hc : ∀ c ∈ bs, c < 256) (hg : hget H r = some (.cells [d, .int 9223372036854775807 (a0 : Int)] yr)) (v1 v4 v5 : AV)
    (cnt a acc f : Nat) (v8 v9 v10 v21 v29 v31 : AV) (hk : cnt ≤ 9) (hacc : acc < 128 ^ cnt) (ha : a ≤ bs.length) :
    RdPost mx H r yr a0 d (dec acc cnt (bs.drop a)) (a + (dec acc cnt (bs.drop a)).2.2 - cnt) ((rl (CL mx) (f + 4)).lp (kRd_32 (CL mx)) ⟨kRd_T (.pto r 0) v1 v4 v5 (.pto H.length 0) (.pto (H.length + 1) 0) v8 v9 v10 v21 v29 v31, H ++ [mtr acc cnt, lok d a]⟩) ∨
    ∃ c u8 u9 u10 u21 u29 u31, bs[a]? = some c ∧ c < 256 ∧ cnt < 9 ∧ 128 ≤ c ∧ dec acc cnt (bs.drop a) = dec (acc + c % 128 * 128 ^ cnt) (cnt + 1) (bs.drop (a + 1)) ∧
      (rl (CL mx) (f + 4)).lp (kRd_32 (CL mx)) ⟨kRd_T (.pto r 0) v1 v4 v5 (.pto H.length 0) (.pto (H.length + 1) 0) v8 v9 v10 v21 v29 v31, H ++ [mtr acc cnt, lok d a]⟩ =
        (rl (CL mx) (f + 3)).lp (kRd_32 (CL mx)) ⟨kRd_T (.pto r 0) v1 v4 v5 (.pto H.length 0) (.pto (H.length + 1) 0) u8 u9 u10 u21 u29 u31, H ++ [mtr (acc + c % 128 * 128 ^ cnt) (cnt + 1), lok d (a + 1)]⟩ := by
  have hrl : r < H.length := hget_of_lt hg
  have n0 : decide ((10 : Int) ≠ 0) = true := by decide
  have n1 : decide ((0 : Int) ≠ 0) = false := by decide
  have n2 : decide ((20 : Int) ≠ 0) = true := by decide
  have hR : RdAt (H ++ [mtr acc cnt, lok d a]) (H.length + 1) d bs a := ⟨⟨_, by rw [two_get1]; rfl⟩, hd.up (Fr.push (Nat.le_refl _) _), ha, hb⟩
  have hbyte := byte_call mx f hR (by rw [two_get1]; rfl)
  cases hca : bs[a]? with
  | none =>
    left
    have hdr : bs.drop a = [] := by rw [List.drop_eq_nil_iff]; exact List.getElem?_eq_none_iff.1 hca
    rw [hca] at hbyte
    rw [hdr]
    apply Exists.intro
    refine ⟨?_, ?_, ?_, ?_, ?_⟩
    · rw [rl_lp]
      simp only [guardC_b, guardC_u, beqB_tt, beqB_tf, beqB_ft, beqB_ff, min_eq, max_eq, vhO_kVH, ckN_eq, ckE_eq, List.length_set, ckX_same, bldS_int2, lt_agg, lt_tup, lt_int, lt_bool, lt_str, lt_nils, lt_sle, lt_nil, lt_slp, lt_ptp, kNrm_st, obindS, obindN, kThen_nrm, kThen_ret, kThen_exit, kOut_nrm, kOut_ret, kOut_exit, kIf_b, bqT, bqF, moveA_eq, pickA_eq, boxA_eq, newA_eq, cmp_eq, arith_eq, remA_eq, quoA_eq, notA_eq, negA_eq, cvI_eq, moveP_o, moveP_p, blkC_cells, load1_o, load1_p, loadG_o, loadG_p, store1_o, storeG_o, lenS_nils, lenS_sle, lenS_p, lenS_o, lenT_eq, idxS_p, idxS_o, idxT_eq, idxA_o, idxV1_eq, fld1_eq, fldG_eq, extA_eq, nilCk_o, nilCk_p, strAdd_eq, strCmp_eq, withX_some, withX_none, iaddE, isubE, imulE, iltE, igtE, ileE, igeE, ineE, ibeqE, hget_top, hget_zero, hget_succ, set_top, plains_nil, plains_cons, plain_int, plain_bool, plain_str, plain_nils, plain_slp, plain_sle, plain_nil, plain_pto, plain_ptp, plain_slo, nb_agg, nb_int, nb_bool, nb_str, nb_slp, nb_nils, nb_sle, nb_slo, cells_agg, cells_int, cells_bool, cells_str, List.length_cons, List.length_nil, List.length_append, List.take_succ_cons, List.take_zero, List.drop_succ_cons, List.drop_zero, List.cons_append, List.nil_append, List.append_nil, List.drop_nil, List.take_nil, List.getElem?_cons_zero, List.getElem?_cons_succ, List.set_cons_zero, List.set_cons_succ, Nat.reduceAdd, Nat.reduceMul, Nat.reduceSub, Nat.reduceLeDiff, Nat.reduceEqDiff, Nat.reduceLT, Nat.zero_add, Nat.add_zero, decide_true, decide_false, Bool.and_true, Bool.true_and, Bool.and_false, Bool.false_and, Bool.not_true, Bool.not_false, Nat.le_refl, reduceIte, kRd_0_eq, kRd_1_eq, kRd_2_eq, kRd_3_eq, kRd_4_eq, kRd_5_eq, kRd_6_eq, kRd_7_eq, kRd_8_eq, kRd_9_eq, kRd_10_eq, kRd_11_eq, kRd_12_eq, kRd_13_eq, kRd_14_eq, kRd_15_eq, kRd_16_eq, kRd_17_eq, kRd_18_eq, kRd_19_eq, kRd_20_eq, kRd_21_eq, kRd_22_eq, kRd_23_eq, kRd_24_eq, kRd_25_eq, kRd_26_eq, kRd_27_eq, kRd_28_eq, kRd_29_eq, kRd_30_eq, kRd_31_eq, kRd_32_eq, kRd_33_eq, kRd_34_eq, kRd_35_eq, kRd_36_eq, kRd_37_eq, kRd_ret, kRd_nrm, hbyte, n0]
      rfl
    · exact kRd_ret ..
    · show H.length ≤ (H ++ _).length; simp
    · exact fun i hi _ => hget_old hi _
    · show hget (H ++ _) r = _
      rw [hget_old hrl]; exact hg
  | some c =>
    have hcl : c < 256 := hc c (List.mem_of_getElem? hca)
    have hdr : bs.drop a = c :: bs.drop (a + 1) := by
      rw [List.drop_eq_getElem_cons (List.getElem?_eq_some_iff.1 hca).1, (List.getElem?_eq_some_iff.1 hca).2]
    rw [hca] at hbyte
    simp only [two_set1] at hbyte
    have hst := step_call mx (f + 2) (h := H ++ [mtr acc cnt, lok d (a + 1)]) (m := H.length) (c := c) (by rw [two_get0]; rfl) hcl hk hacc
    rw [hdr]
    by_cases h1 : cnt = 9 ∧ 1 < c
    · left
      rw [if_pos h1] at hst
      have hdec : dec acc cnt (c :: bs.drop (a + 1)) = (20, 0, 0) := by unfold dec; rw [if_pos h1]
      rw [hdec]
      apply Exists.intro
      refine ⟨?_, ?_, ?_, ?_, ?_⟩
      · rw [rl_lp]
        unfold lok at hbyte hst ⊢
        simp only [guardC_b, guardC_u, beqB_tt, beqB_tf, beqB_ft, beqB_ff, min_eq, max_eq, vhO_kVH, ckN_eq, ckE_eq, List.length_set, ckX_same, bldS_int2, lt_agg, lt_tup, lt_int, lt_bool, lt_str, lt_nils, lt_sle, lt_nil, lt_slp, lt_ptp, kNrm_st, obindS, obindN, kThen_nrm, kThen_ret, kThen_exit, kOut_nrm, kOut_ret, kOut_exit, kIf_b, bqT, bqF, moveA_eq, pickA_eq, boxA_eq, newA_eq, cmp_eq, arith_eq, remA_eq, quoA_eq, notA_eq, negA_eq, cvI_eq, moveP_o, moveP_p, blkC_cells, load1_o, load1_p, loadG_o, loadG_p, store1_o, storeG_o, lenS_nils, lenS_sle, lenS_p, lenS_o, lenT_eq, idxS_p, idxS_o, idxT_eq, idxA_o, idxV1_eq, fld1_eq, fldG_eq, extA_eq, nilCk_o, nilCk_p, strAdd_eq, strCmp_eq, withX_some, withX_none, iaddE, isubE, imulE, iltE, igtE, ileE, igeE, ineE, ibeqE, hget_top, hget_zero, hget_succ, set_top, plains_nil, plains_cons, plain_int, plain_bool, plain_str, plain_nils, plain_slp, plain_sle, plain_nil, plain_pto, plain_ptp, plain_slo, nb_agg, nb_int, nb_bool, nb_str, nb_slp, nb_nils, nb_sle, nb_slo, cells_agg, cells_int, cells_bool, cells_str, List.length_cons, List.length_nil, List.length_append, List.take_succ_cons, List.take_zero, List.drop_succ_cons, List.drop_zero, List.cons_append, List.nil_append, List.append_nil, List.drop_nil, List.take_nil, List.getElem?_cons_zero, List.getElem?_cons_succ, List.set_cons_zero, List.set_cons_succ, Nat.reduceAdd, Nat.reduceMul, Nat.reduceSub, Nat.reduceLeDiff, Nat.reduceEqDiff, Nat.reduceLT, Nat.zero_add, Nat.add_zero, decide_true, decide_false, Bool.and_true, Bool.true_and, Bool.and_false, Bool.false_and, Bool.not_true, Bool.not_false, Nat.le_refl, reduceIte, kRd_0_eq, kRd_1_eq, kRd_2_eq, kRd_3_eq, kRd_4_eq, kRd_5_eq, kRd_6_eq, kRd_7_eq, kRd_8_eq, kRd_9_eq, kRd_10_eq, kRd_11_eq, kRd_12_eq, kRd_13_eq, kRd_14_eq, kRd_15_eq, kRd_16_eq, kRd_17_eq, kRd_18_eq, kRd_19_eq, kRd_20_eq, kRd_21_eq, kRd_22_eq, kRd_23_eq, kRd_24_eq, kRd_25_eq, kRd_26_eq, kRd_27_eq, kRd_28_eq, kRd_29_eq, kRd_30_eq, kRd_31_eq, kRd_32_eq, kRd_33_eq, kRd_34_eq, kRd_35_eq, kRd_36_eq, kRd_37_eq, kRd_ret, kRd_nrm, hbyte, n1, hst, n2]
        rfl
      · exact kRd_ret ..
      · show H.length ≤ (H ++ _).length; simp
      · exact fun i hi _ => hget_old hi _
      · show hget (H ++ _) r = _
        rw [hget_old hrl]; exact hg
    · rw [if_neg h1] at hst
      simp only [two_set0] at hst
      by_cases hc1 : c < 128
      · left
        have hdec : dec acc cnt (c :: bs.drop (a + 1)) = (0, acc + c % 128 * 128 ^ cnt, cnt + 1) := by unfold dec; rw [if_neg h1, if_pos hc1]
        rw [hdec]
        rw [decide_eq_true hc1] at hst
        have hl2 : hget (H ++ [mtr (acc + c % 128 * 128 ^ cnt) (cnt + 1), lok d (a + 1)]) (H.length + 1) = some (.cells [d, .int 9223372036854775807 ((a + 1 : Nat) : Int)] (111 + 1)) := two_get1 ..
        have hl3 : hget (H ++ [mtr (acc + c % 128 * 128 ^ cnt) (cnt + 1), lok d (a + 1)]) r = some (.cells [d, .int 9223372036854775807 (a0 : Int)] yr) := by rw [hget_old hrl]; exact hg
        have hval := val_call mx (f + 2) (h := (H ++ [mtr (acc + c % 128 * 128 ^ cnt) (cnt + 1), lok d (a + 1)]).set r (some (.cells [d, .int 9223372036854775807 ((a + 1 : Nat) : Int)] yr))) (m := H.length) (l := .bool true) (n := ((acc + c % 128 * 128 ^ cnt : Nat) : Int)) (c := ((cnt + 1 : Nat) : Int)) (y := 113 + 1) (by rw [hget_set_ne (by omega), two_get0]; rfl)
        have pd := hd.plain
        apply Exists.intro
        refine ⟨?_, ?_, ?_, ?_, ?_⟩
        · rw [rl_lp]
          unfold lok mtr at hbyte hst hl2 hl3 hval ⊢
          simp only [guardC_b, guardC_u, beqB_tt, beqB_tf, beqB_ft, beqB_ff, min_eq, max_eq, vhO_kVH, ckN_eq, ckE_eq, List.length_set, ckX_same, bldS_int2, lt_agg, lt_tup, lt_int, lt_bool, lt_str, lt_nils, lt_sle, lt_nil, lt_slp, lt_ptp, kNrm_st, obindS, obindN, kThen_nrm, kThen_ret, kThen_exit, kOut_nrm, kOut_ret, kOut_exit, kIf_b, bqT, bqF, moveA_eq, pickA_eq, boxA_eq, newA_eq, cmp_eq, arith_eq, remA_eq, quoA_eq, notA_eq, negA_eq, cvI_eq, moveP_o, moveP_p, blkC_cells, load1_o, load1_p, loadG_o, loadG_p, store1_o, storeG_o, lenS_nils, lenS_sle, lenS_p, lenS_o, lenT_eq, idxS_p, idxS_o, idxT_eq, idxA_o, idxV1_eq, fld1_eq, fldG_eq, extA_eq, nilCk_o, nilCk_p, strAdd_eq, strCmp_eq, withX_some, withX_none, iaddE, isubE, imulE, iltE, igtE, ileE, igeE, ineE, ibeqE, hget_top, hget_zero, hget_succ, set_top, plains_nil, plains_cons, plain_int, plain_bool, plain_str, plain_nils, plain_slp, plain_sle, plain_nil, plain_pto, plain_ptp, plain_slo, nb_agg, nb_int, nb_bool, nb_str, nb_slp, nb_nils, nb_sle, nb_slo, cells_agg, cells_int, cells_bool, cells_str, List.length_cons, List.length_nil, List.length_append, List.take_succ_cons, List.take_zero, List.drop_succ_cons, List.drop_zero, List.cons_append, List.nil_append, List.append_nil, List.drop_nil, List.take_nil, List.getElem?_cons_zero, List.getElem?_cons_succ, List.set_cons_zero, List.set_cons_succ, Nat.reduceAdd, Nat.reduceMul, Nat.reduceSub, Nat.reduceLeDiff, Nat.reduceEqDiff, Nat.reduceLT, Nat.zero_add, Nat.add_zero, decide_true, decide_false, Bool.and_true, Bool.true_and, Bool.and_false, Bool.false_and, Bool.not_true, Bool.not_false, Nat.le_refl, reduceIte, kRd_0_eq, kRd_1_eq, kRd_2_eq, kRd_3_eq, kRd_4_eq, kRd_5_eq, kRd_6_eq, kRd_7_eq, kRd_8_eq, kRd_9_eq, kRd_10_eq, kRd_11_eq, kRd_12_eq, kRd_13_eq, kRd_14_eq, kRd_15_eq, kRd_16_eq, kRd_17_eq, kRd_18_eq, kRd_19_eq, kRd_20_eq, kRd_21_eq, kRd_22_eq, kRd_23_eq, kRd_24_eq, kRd_25_eq, kRd_26_eq, kRd_27_eq, kRd_28_eq, kRd_29_eq, kRd_30_eq, kRd_31_eq, kRd_32_eq, kRd_33_eq, kRd_34_eq, kRd_35_eq, kRd_36_eq, kRd_37_eq, kRd_ret, kRd_nrm, hbyte, n1, hst, hl2, hl3, hval, pd]
          rfl
        · exact kRd_ret ..
        · show H.length ≤ ((H ++ _).set _ _).length; simp
        · intro i hi hne
          show hget ((H ++ _).set _ _) i = _
          rw [hget_set_ne (fun e => hne e.symm), hget_old hi]
        · show hget ((H ++ _).set _ _) r = _
          rw [hget_set_same (by simp; omega), if_pos rfl, show a + (cnt + 1) - cnt = a + 1 by omega]
      · right
        rw [decide_eq_false hc1] at hst
        have hdec : dec acc cnt (c :: bs.drop (a + 1)) = dec (acc + c % 128 * 128 ^ cnt) (cnt + 1) (bs.drop (a + 1)) := by
          conv => lhs; unfold dec
          rw [if_neg h1, if_neg hc1]
        refine ⟨c, .int 255 (c : Int), .int 9223372036854775807 0, .bool false, .bool false, .bool false, .bool false, rfl, hcl, by omega, by omega, hdec, ?_⟩
        rw [rl_lp]
        unfold lok mtr at hbyte hst ⊢
        simp only [guardC_b, guardC_u, beqB_tt, beqB_tf, beqB_ft, beqB_ff, min_eq, max_eq, vhO_kVH, ckN_eq, ckE_eq, List.length_set, ckX_same, bldS_int2, lt_agg, lt_tup, lt_int, lt_bool, lt_str, lt_nils, lt_sle, lt_nil, lt_slp, lt_ptp, kNrm_st, obindS, obindN, kThen_nrm, kThen_ret, kThen_exit, kOut_nrm, kOut_ret, kOut_exit, kIf_b, bqT, bqF, moveA_eq, pickA_eq, boxA_eq, newA_eq, cmp_eq, arith_eq, remA_eq, quoA_eq, notA_eq, negA_eq, cvI_eq, moveP_o, moveP_p, blkC_cells, load1_o, load1_p, loadG_o, loadG_p, store1_o, storeG_o, lenS_nils, lenS_sle, lenS_p, lenS_o, lenT_eq, idxS_p, idxS_o, idxT_eq, idxA_o, idxV1_eq, fld1_eq, fldG_eq, extA_eq, nilCk_o, nilCk_p, strAdd_eq, strCmp_eq, withX_some, withX_none, iaddE, isubE, imulE, iltE, igtE, ileE, igeE, ineE, ibeqE, hget_top, hget_zero, hget_succ, set_top, plains_nil, plains_cons, plain_int, plain_bool, plain_str, plain_nils, plain_slp, plain_sle, plain_nil, plain_pto, plain_ptp, plain_slo, nb_agg, nb_int, nb_bool, nb_str, nb_slp, nb_nils, nb_sle, nb_slo, cells_agg, cells_int, cells_bool, cells_str, List.length_cons, List.length_nil, List.length_append, List.take_succ_cons, List.take_zero, List.drop_succ_cons, List.drop_zero, List.cons_append, List.nil_append, List.append_nil, List.drop_nil, List.take_nil, List.getElem?_cons_zero, List.getElem?_cons_succ, List.set_cons_zero, List.set_cons_succ, Nat.reduceAdd, Nat.reduceMul, Nat.reduceSub, Nat.reduceLeDiff, Nat.reduceEqDiff, Nat.reduceLT, Nat.zero_add, Nat.add_zero, decide_true, decide_false, Bool.and_true, Bool.true_and, Bool.and_false, Bool.false_and, Bool.not_true, Bool.not_false, Nat.le_refl, reduceIte, kRd_0_eq, kRd_1_eq, kRd_2_eq, kRd_3_eq, kRd_4_eq, kRd_5_eq, kRd_6_eq, kRd_7_eq, kRd_8_eq, kRd_9_eq, kRd_10_eq, kRd_11_eq, kRd_12_eq, kRd_13_eq, kRd_14_eq, kRd_15_eq, kRd_16_eq, kRd_17_eq, kRd_18_eq, kRd_19_eq, kRd_20_eq, kRd_21_eq, kRd_22_eq, kRd_23_eq, kRd_24_eq, kRd_25_eq, kRd_26_eq, kRd_27_eq, kRd_28_eq, kRd_29_eq, kRd_30_eq, kRd_31_eq, kRd_32_eq, kRd_33_eq, kRd_34_eq, kRd_35_eq, kRd_36_eq, kRd_37_eq, kRd_ret, kRd_nrm, hbyte, n1, hst]
theorem rd_loop (mx : Int) {H : AH} {r yr a0 : Nat} {d : AV} {bs : List Nat} (hd : SlAt H d (bytesA bs)) (hb : bs.length ≤ 1000000) (hc : ∀ c ∈ bs, c < 256) (hg : hget H r = some (.cells [d, .int 9223372036854775807 (a0 : Int)] yr)) (v1 v4 v5 : AV) :
    ∀ (k cnt a acc f : Nat) (v8 v9 v10 v21 v29 v31 : AV), cnt + k = 9 → k + 6 ≤ f → acc < 128 ^ cnt → a ≤ bs.length →
    RdPost mx H r yr a0 d (dec acc cnt (bs.drop a)) (a + (dec acc cnt (bs.drop a)).2.2 - cnt) ((rl (CL mx) f).lp (kRd_32 (CL mx)) ⟨kRd_T (.pto r 0) v1 v4 v5 (.pto H.length 0) (.pto (H.length + 1) 0) v8 v9 v10 v21 v29 v31, H ++ [mtr acc cnt, lok d a]⟩) := by
  intro k
  induction k with
  | zero =>
    intro cnt a acc f v8 v9 v10 v21 v29 v31 hk hf hacc ha
    obtain ⟨f, rfl⟩ : ∃ g, f = g + 4 := ⟨f - 4, by omega⟩
    rcases rd_round mx hd hb hc hg v1 v4 v5 cnt a acc f v8 v9 v10 v21 v29 v31 (by omega) hacc ha with h | ⟨_, _, _, _, _, _, _, _, _, h, _⟩
    · exact h
    · omega
  | succ k ih =>
    intro cnt a acc f v8 v9 v10 v21 v29 v31 hk hf hacc ha
    obtain ⟨f, rfl⟩ : ∃ g, f = g + 4 := ⟨f - 4, by omega⟩
    rcases rd_round mx hd hb hc hg v1 v4 v5 cnt a acc f v8 v9 v10 v21 v29 v31 (by omega) hacc ha with h | ⟨c, u8, u9, u10, u21, u29, u31, e1, e2, e3, e4, e5, e6⟩
    · exact h
    · rw [e6, e5]
      have hal := (List.getElem?_eq_some_iff.1 e1).1
      have hlt : acc + c % 128 * 128 ^ cnt < 128 ^ (cnt + 1) := by
        have : c % 128 * 128 ^ cnt ≤ 127 * 128 ^ cnt := Nat.mul_le_mul (by omega) (Nat.le_refl _)
        rw [Nat.pow_succ]; omega
      have := ih (cnt + 1) (a + 1) (acc + c % 128 * 128 ^ cnt) (f + 3) u8 u9 u10 u21 u29 u31 (by omega) (by omega) hlt (by omega)
      rw [show a + 1 + (dec (acc + c % 128 * 128 ^ cnt) (cnt + 1) (bs.drop (a + 1))).2.2 - (cnt + 1) = a + (dec (acc + c % 128 * 128 ^ cnt) (cnt + 1) (bs.drop (a + 1))).2.2 - cnt by omega] at this
      exact this
/-- The next number. -/
theorem read_run (mx : Int) (f : Nat) (hf : 20 ≤ f) {H : AH} {r yr a : Nat} {d : AV} {bs : List Nat} (hd : SlAt H d (bytesA bs)) (hb : bs.length ≤ 1000000) (hc : ∀ c ∈ bs, c < 256) (ha : a ≤ bs.length) (hg : hget H r = some (.cells [d, .int 9223372036854775807 (a : Int)] yr)) :
    ∃ h', (rl (CL mx) (f + 1)).run 25 [.pto r 0, .bool true] H = some (.tup [.int 18446744073709551615 ((dec 0 0 (bs.drop a)).2.1 : Int), .int 9223372036854775807 ((dec 0 0 (bs.drop a)).1 : Int)], h') ∧
      H.length ≤ h'.length ∧ (∀ i, i < H.length → i ≠ r → hget h' i = hget H i) ∧ hget h' r = some (.cells [d, .int 9223372036854775807 ((if (dec 0 0 (bs.drop a)).1 = 0 then a + (dec 0 0 (bs.drop a)).2.2 else a : Nat) : Int)] yr) := by
  have hrl : r < H.length := hget_of_lt hg
  obtain ⟨s, e1, e2, e3, e4, e5⟩ := rd_loop mx hd hb hc hg (.bool true) (.int 18446744073709551615 0) (.int 9223372036854775807 0) 9 0 a 0 f .bot .bot .bot .bot .bot .bot (by omega) (by omega) (by simp) ha
  refine ⟨s.h, ?_, e3, e4, e5⟩
  have hbld := fun h κ => bldA_of (h := h) (κ := κ) (place := placeOf (CL mx) [(0, 4), (1, 27), (2, 3)]) (z := [.bool false, .int 18446744073709551615 0, .int 9223372036854775807 0]) (ps := [(0, .bool true)]) (cs := [.bool true, .int 18446744073709551615 0, .int 9223372036854775807 0]) (by kernel_rfl)
  have st1 : ∀ κ : Ka, storeG 3 (.pto H.length 0) (.agg [.bool true, .int 18446744073709551615 0, .int 9223372036854775807 0]) (H ++ [some (.cells [.bool false, .int 18446744073709551615 0, .int 9223372036854775807 0] (113 + 1))]) κ = κ (.tup []) (H ++ [some (.cells [.bool true, .int 18446744073709551615 0, .int 9223372036854775807 0] (113 + 1))]) := fun κ => storeG_new rfl rfl rfl
  have g1 : hget (H ++ [some (.cells [.bool true, .int 18446744073709551615 0, .int 9223372036854775807 0] (113 + 1))]) r = some (.cells [d, .int 9223372036854775807 (a : Int)] yr) := by rw [hget_old hrl]; exact hg
  have st : ∀ κ : Ka, storeG 2 (.pto (H.length + 1) 0) (.agg [d, .int 9223372036854775807 (a : Int)]) (H ++ [some (.cells [.bool true, .int 18446744073709551615 0, .int 9223372036854775807 0] (113 + 1)), some (.cells [.nils, .int 9223372036854775807 0] (111 + 1))]) κ = κ (.tup []) (H ++ [mtr 0 0, lok d a]) := fun κ => by
    have := storeG_new (n := 2) (y := 111 + 1) (Z := [.nils, .int 9223372036854775807 0]) (E := [d, .int 9223372036854775807 (a : Int)]) (h := H ++ [some (.cells [.bool true, .int 18446744073709551615 0, .int 9223372036854775807 0] (113 + 1))]) (κ := κ) rfl rfl (by rw [plains_cons, plains_cons, hd.plain]; rfl)
    simp only [List.length_append, List.length_cons, List.length_nil, Nat.zero_add, List.append_assoc, List.cons_append, List.nil_append] at this
    exact this
  rw [rl_run, kRd_run _ _ _ _ _ _ (by kernel_rfl) (kRd_fk mx)]
  simp only [guardC_b, guardC_u, beqB_tt, beqB_tf, beqB_ft, beqB_ff, min_eq, max_eq, vhO_kVH, ckN_eq, ckE_eq, List.length_set, ckX_same, bldS_int2, lt_agg, lt_tup, lt_int, lt_bool, lt_str, lt_nils, lt_sle, lt_nil, lt_slp, lt_ptp, kNrm_st, obindS, obindN, kThen_nrm, kThen_ret, kThen_exit, kOut_nrm, kOut_ret, kOut_exit, kIf_b, bqT, bqF, moveA_eq, pickA_eq, boxA_eq, newA_eq, cmp_eq, arith_eq, remA_eq, quoA_eq, notA_eq, negA_eq, cvI_eq, moveP_o, moveP_p, blkC_cells, load1_o, load1_p, loadG_o, loadG_p, store1_o, storeG_o, lenS_nils, lenS_sle, lenS_p, lenS_o, lenT_eq, idxS_p, idxS_o, idxT_eq, idxA_o, idxV1_eq, fld1_eq, fldG_eq, extA_eq, nilCk_o, nilCk_p, strAdd_eq, strCmp_eq, withX_some, withX_none, iaddE, isubE, imulE, iltE, igtE, ileE, igeE, ineE, ibeqE, hget_top, hget_zero, hget_succ, set_top, plains_nil, plains_cons, plain_int, plain_bool, plain_str, plain_nils, plain_slp, plain_sle, plain_nil, plain_pto, plain_ptp, plain_slo, nb_agg, nb_int, nb_bool, nb_str, nb_slp, nb_nils, nb_sle, nb_slo, cells_agg, cells_int, cells_bool, cells_str, List.length_cons, List.length_nil, List.length_append, List.take_succ_cons, List.take_zero, List.drop_succ_cons, List.drop_zero, List.cons_append, List.nil_append, List.append_nil, List.drop_nil, List.take_nil, List.getElem?_cons_zero, List.getElem?_cons_succ, List.set_cons_zero, List.set_cons_succ, Nat.reduceAdd, Nat.reduceMul, Nat.reduceSub, Nat.reduceLeDiff, Nat.reduceEqDiff, Nat.reduceLT, Nat.zero_add, Nat.add_zero, decide_true, decide_false, Bool.and_true, Bool.true_and, Bool.and_false, Bool.false_and, Bool.not_true, Bool.not_false, Nat.le_refl, reduceIte, kRd_0_eq, kRd_1_eq, kRd_2_eq, kRd_3_eq, kRd_4_eq, kRd_5_eq, kRd_6_eq, kRd_7_eq, kRd_8_eq, kRd_9_eq, kRd_10_eq, kRd_11_eq, kRd_12_eq, kRd_13_eq, kRd_14_eq, kRd_15_eq, kRd_16_eq, kRd_17_eq, kRd_18_eq, kRd_19_eq, kRd_20_eq, kRd_21_eq, kRd_22_eq, kRd_23_eq, kRd_24_eq, kRd_25_eq, kRd_26_eq, kRd_27_eq, kRd_28_eq, kRd_29_eq, kRd_30_eq, kRd_31_eq, kRd_32_eq, kRd_33_eq, kRd_34_eq, kRd_35_eq, kRd_36_eq, kRd_37_eq, kRd_ret, kRd_nrm, -kRd_32_eq, -storeG_o, List.append_assoc, hbld, st1, g1, st, e1, e2]
end Go.Proofs.YtgjccdampinbgaaGreatDoor
