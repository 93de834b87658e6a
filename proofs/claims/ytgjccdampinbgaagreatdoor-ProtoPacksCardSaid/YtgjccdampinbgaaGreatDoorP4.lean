/- The numbers that bytes are: their run. The function's equations are printed by a program. -/
import Derived.Test.YtgjccdampinbgaaGreatDoorP3
namespace Go.Proofs.YtgjccdampinbgaaGreatDoor
set_option linter.unusedSimpArgs false
set_option linter.unusedVariables false
set_option linter.unnecessarySimpa false
noncomputable section
/- (guipure/proto.Field).Packed -/
def kPkd_T (v0 v1 v2 v3 v4 v5 v6 v7 v10 v16 v23 : AV) : Tm := (.nd 5 (.nd 2 (.nd 1 (.lf 0 v0) (.lf 1 v1)) (.nd 3 (.lf 2 v2) (.nd 4 (.lf 3 v3) (.lf 4 v4)))) (.nd 10 (.nd 6 (.lf 5 v5) (.nd 7 (.lf 6 v6) (.lf 7 v7))) (.nd 16 (.lf 10 v10) (.nd 23 (.lf 16 v16) (.lf 23 v23)))))
section
variable (C : Cx) (run : Run) (lp : Lp) (s : St) (h : AH) (v0 v1 v2 v3 v4 v5 v6 v7 v10 v16 v23 : AV)
def kPkd_0 (C : Cx) : K := .reg [.mk (o1 (boxA 30) (.tr 0)), .mk (o1 moveA (.cst (.nils))), .mk (o1 moveA (.cst (.int 9223372036854775807 0)))] [(3, 0), (2, 1), (1, 2)]
theorem kPkd_0_eq : kx C run lp (kPkd_0 C) ⟨kPkd_T v0 v1 v2 v3 v4 v5 v6 v7 v10 v16 v23, h⟩ = kNrm (boxA 30 v0 h (fun a0 h => moveA (.nils) h (fun a1 h => moveA (.int 9223372036854775807 0) h (fun a2 h => some (.st (kPkd_T v0 a0 a1 a2 v4 v5 v6 v7 v10 v16 v23) h))))) := (rfl)
def kPkd_1 (C : Cx) : K := .reg [.mk (o1 (moveP 1) (.tr 1)), .mk (o1 load1 (.st 0)), .mk (o2 (cmp ine) (.st 0) (.cst (.int 9223372036854775807 2)))] [(10, 0)]
theorem kPkd_1_eq : kx C run lp (kPkd_1 C) ⟨kPkd_T v0 v1 v2 v3 v4 v5 v6 v7 v10 v16 v23, h⟩ = kNrm (moveP 1 v1 h (fun a0 h => load1 a0 h (fun a1 h => cmp ine a1 (.int 9223372036854775807 2) h (fun a2 h => some (.st (kPkd_T v0 v1 v2 v3 v4 v5 v6 v7 a2 v16 v23) h))))) := (rfl)
def kPkd_2 (C : Cx) : K := .reg [.mk (o1 moveA (.cst (.nils))), .mk (o1 moveA (.cst (.int 9223372036854775807 213)))] [(3, 0), (2, 1)]
theorem kPkd_2_eq : kx C run lp (kPkd_2 C) ⟨kPkd_T v0 v1 v2 v3 v4 v5 v6 v7 v10 v16 v23, h⟩ = kNrm (moveA (.nils) h (fun a0 h => moveA (.int 9223372036854775807 213) h (fun a1 h => some (.st (kPkd_T v0 v1 a0 a1 v4 v5 v6 v7 v10 v16 v23) h)))) := (rfl)
def kPkd_3 (_ : Cx) : K := .ex .ret
theorem kPkd_3_eq : kx C run lp (kPkd_3 C) s = some (.ret, s) := (rfl)
def kPkd_4 (C : Cx) : K := .seq (kPkd_2 C) (kPkd_3 C)
theorem kPkd_4_eq : kx C run lp (kPkd_4 C) s = obind (kx C run lp (kPkd_2 C) s) (kThen (kx C run lp (kPkd_3 C))) := (rfl)
def kPkd_5 (_ : Cx) : K := .skip
theorem kPkd_5_eq : kx C run lp (kPkd_5 C) s = some (.nrm, s) := (rfl)
def kPkd_6 (C : Cx) : K := .cond (.tr 10) (kPkd_4 C) (kPkd_5 C)
theorem kPkd_6_eq : kx C run lp (kPkd_6 C) ⟨kPkd_T v0 v1 v2 v3 v4 v5 v6 v7 v10 v16 v23, h⟩ = kIf v10 (kx C run lp (kPkd_4 C)) (kx C run lp (kPkd_5 C)) ⟨kPkd_T v0 v1 v2 v3 v4 v5 v6 v7 v10 v16 v23, h⟩ := (rfl)
def kPkd_7 (C : Cx) : K := .seq (kPkd_1 C) (kPkd_6 C)
theorem kPkd_7_eq : kx C run lp (kPkd_7 C) s = obind (kx C run lp (kPkd_1 C) s) (kThen (kx C run lp (kPkd_6 C))) := (rfl)
def kPkd_8 (C : Cx) : K := .reg [.mk (o1 (moveP 3) (.tr 1)), .mk (o1 load1 (.st 0)), .mk (oCallF 23 [(.st 0)]), .mk (o1 moveA (.st 0))] [(4, 0)]
theorem kPkd_8_eq : kx C run lp (kPkd_8 C) ⟨kPkd_T v0 v1 v2 v3 v4 v5 v6 v7 v10 v16 v23, h⟩ = kNrm (moveP 3 v1 h (fun a0 h => load1 a0 h (fun a1 h => withX (fun a2 h => moveA a2 h (fun a3 h => some (.st (kPkd_T v0 v1 v2 v3 a3 v5 v6 v7 v10 v16 v23) h))) (callA C run 23 [a1] h)))) := (rfl)
def kPkd_9 (C : Cx) : K := .reg [.mk (o1 moveA (.cst (.nils)))] [(5, 0)]
theorem kPkd_9_eq : kx C run lp (kPkd_9 C) ⟨kPkd_T v0 v1 v2 v3 v4 v5 v6 v7 v10 v16 v23, h⟩ = kNrm (moveA (.nils) h (fun a0 h => some (.st (kPkd_T v0 v1 v2 v3 v4 a0 v6 v7 v10 v16 v23) h))) := (rfl)
def kPkd_10 (C : Cx) : K := .reg [.mk (o1 moveA (.tr 4)), .mk (oCallF 24 [(.st 0)]), .mk (o2 (cmp igt) (.st 0) (.cst (.int 9223372036854775807 0)))] [(16, 0)]
theorem kPkd_10_eq : kx C run lp (kPkd_10 C) ⟨kPkd_T v0 v1 v2 v3 v4 v5 v6 v7 v10 v16 v23, h⟩ = kNrm (moveA v4 h (fun a0 h => withX (fun a1 h => cmp igt a1 (.int 9223372036854775807 0) h (fun a2 h => some (.st (kPkd_T v0 v1 v2 v3 v4 v5 v6 v7 v10 a2 v23) h))) (callA C run 24 [a0] h))) := (rfl)
def kPkd_11 (_ : Cx) : K := .skip
theorem kPkd_11_eq : kx C run lp (kPkd_11 C) s = some (.nrm, s) := (rfl)
def kPkd_12 (_ : Cx) : K := .ex (.exit 0)
theorem kPkd_12_eq : kx C run lp (kPkd_12 C) s = some (.exit 0, s) := (rfl)
def kPkd_13 (C : Cx) : K := .cond (.tr 16) (kPkd_11 C) (kPkd_12 C)
theorem kPkd_13_eq : kx C run lp (kPkd_13 C) ⟨kPkd_T v0 v1 v2 v3 v4 v5 v6 v7 v10 v16 v23, h⟩ = kIf v16 (kx C run lp (kPkd_11 C)) (kx C run lp (kPkd_12 C)) ⟨kPkd_T v0 v1 v2 v3 v4 v5 v6 v7 v10 v16 v23, h⟩ := (rfl)
def kPkd_14 (C : Cx) : K := .seq (kPkd_10 C) (kPkd_13 C)
theorem kPkd_14_eq : kx C run lp (kPkd_14 C) s = obind (kx C run lp (kPkd_10 C) s) (kThen (kx C run lp (kPkd_13 C))) := (rfl)
def kPkd_15 (C : Cx) : K := .reg [.mk (o1 moveA (.tr 4)), .mk (oCallF 25 [(.st 0), (.cst (.bool true))]), .mk (o1 moveA (.st 0)), .mk (o1 (extA 0) (.st 0)), .mk (o1 (extA 1) (.st 1)), .mk (o1 moveA (.st 1)), .mk (o1 moveA (.st 1))] [(7, 0), (6, 1)]
theorem kPkd_15_eq : kx C run lp (kPkd_15 C) ⟨kPkd_T v0 v1 v2 v3 v4 v5 v6 v7 v10 v16 v23, h⟩ = kNrm (moveA v4 h (fun a0 h => withX (fun a1 h => moveA a1 h (fun a2 h => extA 0 a2 h (fun a3 h => extA 1 a2 h (fun a4 h => moveA a3 h (fun a5 h => moveA a4 h (fun a6 h => some (.st (kPkd_T v0 v1 v2 v3 v4 v5 a5 a6 v10 v16 v23) h))))))) (callA C run 25 [a0, (.bool true)] h))) := (rfl)
def kPkd_16 (C : Cx) : K := .reg [.mk (o1 moveA (.tr 7)), .mk (o2 (cmp ine) (.st 0) (.cst (.int 9223372036854775807 0)))] [(23, 0)]
theorem kPkd_16_eq : kx C run lp (kPkd_16 C) ⟨kPkd_T v0 v1 v2 v3 v4 v5 v6 v7 v10 v16 v23, h⟩ = kNrm (moveA v7 h (fun a0 h => cmp ine a0 (.int 9223372036854775807 0) h (fun a1 h => some (.st (kPkd_T v0 v1 v2 v3 v4 v5 v6 v7 v10 v16 a1) h)))) := (rfl)
def kPkd_17 (C : Cx) : K := .reg [.mk (o1 moveA (.tr 7)), .mk (o1 moveA (.cst (.nils))), .mk (o1 moveA (.st 1))] [(3, 0), (2, 1)]
theorem kPkd_17_eq : kx C run lp (kPkd_17 C) ⟨kPkd_T v0 v1 v2 v3 v4 v5 v6 v7 v10 v16 v23, h⟩ = kNrm (moveA v7 h (fun a0 h => moveA (.nils) h (fun a1 h => moveA a0 h (fun a2 h => some (.st (kPkd_T v0 v1 a1 a2 v4 v5 v6 v7 v10 v16 v23) h))))) := (rfl)
def kPkd_18 (_ : Cx) : K := .ex .ret
theorem kPkd_18_eq : kx C run lp (kPkd_18 C) s = some (.ret, s) := (rfl)
def kPkd_19 (C : Cx) : K := .seq (kPkd_17 C) (kPkd_18 C)
theorem kPkd_19_eq : kx C run lp (kPkd_19 C) s = obind (kx C run lp (kPkd_17 C) s) (kThen (kx C run lp (kPkd_18 C))) := (rfl)
def kPkd_20 (_ : Cx) : K := .skip
theorem kPkd_20_eq : kx C run lp (kPkd_20 C) s = some (.nrm, s) := (rfl)
def kPkd_21 (C : Cx) : K := .cond (.tr 23) (kPkd_19 C) (kPkd_20 C)
theorem kPkd_21_eq : kx C run lp (kPkd_21 C) ⟨kPkd_T v0 v1 v2 v3 v4 v5 v6 v7 v10 v16 v23, h⟩ = kIf v23 (kx C run lp (kPkd_19 C)) (kx C run lp (kPkd_20 C)) ⟨kPkd_T v0 v1 v2 v3 v4 v5 v6 v7 v10 v16 v23, h⟩ := (rfl)
def kPkd_22 (C : Cx) : K := .seq (kPkd_16 C) (kPkd_21 C)
theorem kPkd_22_eq : kx C run lp (kPkd_22 C) s = obind (kx C run lp (kPkd_16 C) s) (kThen (kx C run lp (kPkd_21 C))) := (rfl)
def kPkd_23 (C : Cx) : K := .reg [.mk (o1 moveA (.tr 5)), .mk (o1 moveA (.tr 6)), .mk (oBuildSlice 1 1 [.int 18446744073709551615 0] [(0, (.st 0))]), .mk (o2 (appA 28 1 8) (.st 2) (.st 0)), .mk (o1 moveA (.st 0))] [(5, 0)]
theorem kPkd_23_eq : kx C run lp (kPkd_23 C) ⟨kPkd_T v0 v1 v2 v3 v4 v5 v6 v7 v10 v16 v23, h⟩ = kNrm (moveA v5 h (fun a0 h => moveA v6 h (fun a1 h => bldS 1 1 [.int 18446744073709551615 0] [(0, a1)] h (fun a2 h => appA 28 1 8 a0 a2 h (fun a3 h => moveA a3 h (fun a4 h => some (.st (kPkd_T v0 v1 v2 v3 v4 a4 v6 v7 v10 v16 v23) h))))))) := (rfl)
def kPkd_24 (C : Cx) : K := .seq (kPkd_22 C) (kPkd_23 C)
theorem kPkd_24_eq : kx C run lp (kPkd_24 C) s = obind (kx C run lp (kPkd_22 C) s) (kThen (kx C run lp (kPkd_23 C))) := (rfl)
def kPkd_25 (C : Cx) : K := .seq (kPkd_15 C) (kPkd_24 C)
theorem kPkd_25_eq : kx C run lp (kPkd_25 C) s = obind (kx C run lp (kPkd_15 C) s) (kThen (kx C run lp (kPkd_24 C))) := (rfl)
def kPkd_26 (C : Cx) : K := .block 1 (kPkd_25 C)
theorem kPkd_26_eq : kx C run lp (kPkd_26 C) s = obind (kx C run lp (kPkd_25 C) s) (kOut 1) := (rfl)
def kPkd_27 (C : Cx) : K := .seq (kPkd_14 C) (kPkd_26 C)
theorem kPkd_27_eq : kx C run lp (kPkd_27 C) s = obind (kx C run lp (kPkd_14 C) s) (kThen (kx C run lp (kPkd_26 C))) := (rfl)
def kPkd_28 (C : Cx) : K := .loop (kPkd_27 C)
theorem kPkd_28_eq : kx C run lp (kPkd_28 C) s = lp (kPkd_27 C) s := (rfl)
def kPkd_29 (C : Cx) : K := .block 0 (kPkd_28 C)
theorem kPkd_29_eq : kx C run lp (kPkd_29 C) s = obind (kx C run lp (kPkd_28 C) s) (kOut 0) := (rfl)
def kPkd_30 (C : Cx) : K := .reg [.mk (o1 moveA (.tr 5)), .mk (o1 moveA (.st 0)), .mk (o1 moveA (.cst (.int 9223372036854775807 0)))] [(3, 0), (2, 1)]
theorem kPkd_30_eq : kx C run lp (kPkd_30 C) ⟨kPkd_T v0 v1 v2 v3 v4 v5 v6 v7 v10 v16 v23, h⟩ = kNrm (moveA v5 h (fun a0 h => moveA a0 h (fun a1 h => moveA (.int 9223372036854775807 0) h (fun a2 h => some (.st (kPkd_T v0 v1 a1 a2 v4 v5 v6 v7 v10 v16 v23) h))))) := (rfl)
def kPkd_31 (_ : Cx) : K := .ex .ret
theorem kPkd_31_eq : kx C run lp (kPkd_31 C) s = some (.ret, s) := (rfl)
def kPkd_32 (C : Cx) : K := .seq (kPkd_30 C) (kPkd_31 C)
theorem kPkd_32_eq : kx C run lp (kPkd_32 C) s = obind (kx C run lp (kPkd_30 C) s) (kThen (kx C run lp (kPkd_31 C))) := (rfl)
def kPkd_33 (C : Cx) : K := .seq (kPkd_29 C) (kPkd_32 C)
theorem kPkd_33_eq : kx C run lp (kPkd_33 C) s = obind (kx C run lp (kPkd_29 C) s) (kThen (kx C run lp (kPkd_32 C))) := (rfl)
def kPkd_34 (C : Cx) : K := .seq (kPkd_9 C) (kPkd_33 C)
theorem kPkd_34_eq : kx C run lp (kPkd_34 C) s = obind (kx C run lp (kPkd_9 C) s) (kThen (kx C run lp (kPkd_33 C))) := (rfl)
def kPkd_35 (C : Cx) : K := .seq (kPkd_8 C) (kPkd_34 C)
theorem kPkd_35_eq : kx C run lp (kPkd_35 C) s = obind (kx C run lp (kPkd_8 C) s) (kThen (kx C run lp (kPkd_34 C))) := (rfl)
def kPkd_36 (C : Cx) : K := .seq (kPkd_7 C) (kPkd_35 C)
theorem kPkd_36_eq : kx C run lp (kPkd_36 C) s = obind (kx C run lp (kPkd_7 C) s) (kThen (kx C run lp (kPkd_35 C))) := (rfl)
def kPkd_37 (C : Cx) : K := .seq (kPkd_0 C) (kPkd_36 C)
theorem kPkd_37_eq : kx C run lp (kPkd_37 C) s = obind (kx C run lp (kPkd_0 C) s) (kThen (kx C run lp (kPkd_36 C))) := (rfl)
theorem kPkd_ret : endA C [.tmp 2, .tmp 3] (.ret, ⟨kPkd_T v0 v1 v2 v3 v4 v5 v6 v7 v10 v16 v23, h⟩) = some ((.tup [v2, v3]), h) := (rfl)
theorem kPkd_nrm : endA C [.tmp 2, .tmp 3] (.nrm, ⟨kPkd_T v0 v1 v2 v3 v4 v5 v6 v7 v10 v16 v23, h⟩) = some ((.tup [v2, v3]), h) := (rfl)
end
def kPkd_F (C : Cx) : FK := ⟨kPkd_37 C, [0, 1, 2, 3, 4, 5, 6, 7, 10, 16, 23], 30, [.tmp 2, .tmp 3]⟩
theorem kPkd_run (C : Cx) (run : Run) (lp : Lp) (x0 : AV) (h : AH) (ho : C.orc 7 = none) (hf : fkAt C 7 = some (kPkd_F C)) : runF C run lp 7 [x0] h = obind (kx C run lp (kPkd_37 C) ⟨kPkd_T x0 .bot .bot .bot .bot .bot .bot .bot .bot .bot .bot, h⟩) (endA C [.tmp 2, .tmp 3]) := by
  unfold runF; rw [ho, hf]; rfl

theorem kPkd_fk (mx : Int) : fkAt (CL mx) 7 = some (kPkd_F (CL mx)) := by kernel_rfl
/-- All numbers that bytes are: what is wrong, and they. -/
def decs : Nat → List Nat → Nat × List Nat
  | 0, _ => (0, [])
  | k + 1, bs => if bs = [] then (0, []) else if (dec 0 0 bs).1 ≠ 0 then ((dec 0 0 bs).1, []) else ((decs k (bs.drop (dec 0 0 bs).2.2)).1, (dec 0 0 bs).2.1 :: (decs k (bs.drop (dec 0 0 bs).2.2)).2)
end
theorem SlAt_nil {d : AV} {cs : List AV} (r : SlAt [] d cs) (k : Nat) : d.up k = d := by
  rcases r with ⟨rfl, rfl | rfl⟩ | ⟨row, rfl, _⟩ | ⟨b, o, n, row, y, e, rfl, hb, _⟩
  · rfl
  · rfl
  · rfl
  · simp [hget_eq] at hb
theorem new_call (mx : Int) (f : Nat) {h : AH} {d : AV} {cs : List AV} (hd : SlAt h d cs) :
    ∃ q y h', callA (CL mx) (rl (CL mx) (f + 1)).run 23 [d] h = some (.pto q 0, h') ∧ hget h' q = some (.cells [d, .int 9223372036854775807 0] y) ∧ Fr h.length h h' ∧ h.length ≤ q := by
  obtain ⟨r, h', e, q, y, rfl, q1, q2, q3⟩ := callA_any (C := CL mx) (run := (rl (CL mx) (f + 1)).run) (h := h) (f := 23) (args := [d])
    (Q := fun h r h' => ∃ q y, r = .pto q 0 ∧ hget h' q = some (.cells [d, .int 9223372036854775807 0] y) ∧ Fr h.length h h' ∧ h.length ≤ q ∧ SlAt h d cs)
    (by kernel_rfl) (fun _ => by kernel_rfl) (by kernel_rfl) (by kernel_rfl)
    (fun h0 hh => by
      have hr0 : SlAt h0 d cs := by
        rcases hh with rfl | ⟨rfl, hp⟩
        · exact hd
        · have hp : and (d.lt 0) true = true := hp
          rw [Bool.and_true] at hp
          exact hd.pure hp []
      refine ⟨.pto h0.length 0, h0 ++ [some (.cells [d, .int 9223372036854775807 0] (111 + 1))], ?_, h0.length, _, rfl, hget_top _ _, Fr.push (Nat.le_refl _) _, Nat.le_refl _, hr0⟩
      exact new_run mx f hr0)
    (fun r h1 ⟨q, y, hr, e2, e3, e4, e5⟩ => by
      subst hr
      refine ⟨q + h.length, y, rfl, ?_, Fr.shift h h1, by omega, hd⟩
      rw [← fapp_eq, hget_app, if_neg (by omega), Nat.add_sub_cancel, ← fmap_eq, hget_map, e2]
      show some (Blk.cells (upL h.length [d, .int 9223372036854775807 0]) y) = _
      rw [upL_cons, SlAt_nil e5]; rfl)
    (fun r h1 ⟨q, y, hr, _⟩ hl => by subst hr; rw [lt_pto] at hl; simp at hl)
  exact ⟨q, y, h', e, q1, q2, q3.1⟩
/-- What unpacking leaves. -/
def PkPost (mx : Int) (H : AH) (res : Nat × List Nat) (L : List Nat) (s0 : St → Prop) (x : Option (Ex × St)) : Prop :=
  if res.1 = 0 then ∃ s, x = some (.exit 0, s) ∧ s0 s else ∃ s, x = some (.ret, s) ∧ endA (CL mx) [.tmp 2, .tmp 3] (.ret, s) = some (.tup [.nils, .int 9223372036854775807 (res.1 : Int)], s.h) ∧ Fr H.length H s.h
theorem pkd_loop (mx : Int) {H : AH} {q y m : Nat} {d : AV} {bs : List Nat} (hd : SlAt H d (bytesA bs)) (hb : bs.length ≤ 100000) (hc : ∀ c ∈ bs, c < 256) (hq : H.length ≤ q) (hm : q < m) (v0 v1 v2 v3 v10 : AV) :
    ∀ (k a f : Nat) (g : AH) (out : AV) (L : List Nat) (v6 v7 v16 v23 : AV), bs.length - a < k → k + 30 ≤ f → a ≤ bs.length → L.length ≤ a → Fr H.length H g → m ≤ g.length → hget g q = some (.cells [d, .int 9223372036854775807 (a : Int)] y) → SlFull m g out (numsA L) →
    PkPost mx H (decs k (bs.drop a)) L (fun s => ∃ out' u6 u7 u16 u23 g', s = ⟨kPkd_T v0 v1 v2 v3 (.pto q 0) out' u6 u7 v10 u16 u23, g'⟩ ∧ SlAt g' out' (numsA (L ++ (decs k (bs.drop a)).2)) ∧ Fr H.length H g')
      ((rl (CL mx) f).lp (kPkd_27 (CL mx)) ⟨kPkd_T v0 v1 v2 v3 (.pto q 0) out v6 v7 v10 v16 v23, g⟩) := by
  have n1 : decide ((0 : Int) ≠ 0) = false := by decide
  intro k
  induction k with
  | zero => intro a f g out L v6 v7 v16 v23 hk; omega
  | succ k ih =>
    intro a f g out L v6 v7 v16 v23 hk hf ha hL hF hml hg ho
    obtain ⟨f, rfl⟩ : ∃ g, f = g + 1 := ⟨f - 1, by omega⟩
    obtain ⟨f, rfl⟩ : ∃ g, f = g + 1 := ⟨f - 1, by omega⟩
    have hdg : SlAt g d (bytesA bs) := hd.up hF
    have hleft := left_call mx f (h := g) (r := q) (d := d) (bs := bs) (a := a) ⟨⟨y, hg⟩, hdg, ha, by omega⟩
    by_cases hz : bs.drop a = []
    · have ha' : bs.length ≤ a := List.drop_eq_nil_iff.1 hz
      have hres : decs (k + 1) (bs.drop a) = (0, []) := by unfold decs; rw [if_pos hz]
      have dz : decide ((0 : Int) < ((bs.length - a : Nat) : Int)) = false := by rw [decide_eq_false_iff_not]; omega
      unfold PkPost
      rw [hres, if_pos rfl]
      refine ⟨⟨kPkd_T v0 v1 v2 v3 (.pto q 0) out v6 v7 v10 (.bool false) v23, g⟩, ?_, out, v6, v7, _, v23, g, rfl, by simpa using ho.at, hF⟩
      rw [rl_lp]
      simp only [guardC_b, guardC_u, beqB_tt, beqB_tf, beqB_ft, beqB_ff, min_eq, max_eq, vhO_kVH, ckN_eq, ckE_eq, List.length_set, ckX_same, bldS_int2, lt_agg, lt_tup, lt_int, lt_bool, lt_str, lt_nils, lt_sle, lt_nil, lt_slp, lt_ptp, kNrm_st, obindS, obindN, kThen_nrm, kThen_ret, kThen_exit, kOut_nrm, kOut_ret, kOut_exit, kIf_b, bqT, bqF, moveA_eq, pickA_eq, boxA_eq, newA_eq, cmp_eq, arith_eq, remA_eq, quoA_eq, notA_eq, negA_eq, cvI_eq, moveP_o, moveP_p, blkC_cells, load1_o, load1_p, loadG_o, loadG_p, store1_o, storeG_o, lenS_nils, lenS_sle, lenS_p, lenS_o, lenT_eq, idxS_p, idxS_o, idxT_eq, idxA_o, idxV1_eq, fld1_eq, fldG_eq, extA_eq, nilCk_o, nilCk_p, strAdd_eq, strCmp_eq, withX_some, withX_none, iaddE, isubE, imulE, iltE, igtE, ileE, igeE, ineE, ibeqE, hget_top, hget_zero, hget_succ, set_top, plains_nil, plains_cons, plain_int, plain_bool, plain_str, plain_nils, plain_slp, plain_sle, plain_nil, plain_pto, plain_ptp, plain_slo, nb_agg, nb_int, nb_bool, nb_str, nb_slp, nb_nils, nb_sle, nb_slo, cells_agg, cells_int, cells_bool, cells_str, List.length_cons, List.length_nil, List.length_append, List.take_succ_cons, List.take_zero, List.drop_succ_cons, List.drop_zero, List.cons_append, List.nil_append, List.append_nil, List.drop_nil, List.take_nil, List.getElem?_cons_zero, List.getElem?_cons_succ, List.set_cons_zero, List.set_cons_succ, Nat.reduceAdd, Nat.reduceMul, Nat.reduceSub, Nat.reduceLeDiff, Nat.reduceEqDiff, Nat.reduceLT, Nat.zero_add, Nat.add_zero, decide_true, decide_false, Bool.and_true, Bool.true_and, Bool.and_false, Bool.false_and, Bool.not_true, Bool.not_false, Nat.le_refl, reduceIte, kPkd_0_eq, kPkd_1_eq, kPkd_2_eq, kPkd_3_eq, kPkd_4_eq, kPkd_5_eq, kPkd_6_eq, kPkd_7_eq, kPkd_8_eq, kPkd_9_eq, kPkd_10_eq, kPkd_11_eq, kPkd_12_eq, kPkd_13_eq, kPkd_14_eq, kPkd_15_eq, kPkd_16_eq, kPkd_17_eq, kPkd_18_eq, kPkd_19_eq, kPkd_20_eq, kPkd_21_eq, kPkd_22_eq, kPkd_23_eq, kPkd_24_eq, kPkd_25_eq, kPkd_26_eq, kPkd_27_eq, kPkd_28_eq, kPkd_29_eq, kPkd_30_eq, kPkd_31_eq, kPkd_32_eq, kPkd_33_eq, kPkd_34_eq, kPkd_35_eq, kPkd_36_eq, kPkd_37_eq, kPkd_ret, kPkd_nrm, hleft, dz]
    · have ha' : a < bs.length := by
        rcases Nat.lt_or_ge a bs.length with h | h
        · exact h
        · exact absurd (List.drop_eq_nil_iff.2 h) hz
      have dz : decide ((0 : Int) < ((bs.length - a : Nat) : Int)) = true := by rw [decide_eq_true_iff]; omega
      obtain ⟨h', r1, r2, r3, r4⟩ := read_run mx f (by omega) hdg (by omega) hc ha hg
      have hread := callA_own (C := CL mx) (by kernel_rfl) (by rfl) (by kernel_rfl) r1
      have hF' : Fr H.length H h' := ⟨Nat.le_trans hF.1 r2, fun i hi => by rw [r3 i (by have := hF.1; omega) (by omega)]; exact hF.2 i hi⟩
      by_cases hcode : (dec 0 0 (bs.drop a)).1 = 0
      · have hres : decs (k + 1) (bs.drop a) = ((decs k (bs.drop (a + (dec 0 0 (bs.drop a)).2.2))).1, (dec 0 0 (bs.drop a)).2.1 :: (decs k (bs.drop (a + (dec 0 0 (bs.drop a)).2.2))).2) := by
          conv => lhs; unfold decs
          rw [if_neg hz, if_neg (by simp [hcode]), List.drop_drop]
        obtain ⟨m1, m2⟩ := dec_many _ _ _ hcode
        rw [List.length_drop] at m2
        rw [if_pos hcode] at r4
        rw [hcode] at hread
        have ho' : SlFull m h' out (numsA L) := ho.up fun i hi hl => r3 i hl (by omega)
        obtain ⟨out', g2, a1, a2, a3⟩ := app_full (27 + 1) (by_ := 8) (by decide) (h := h' ++ [some (.cells [.int 18446744073709551615 ((dec 0 0 (bs.drop a)).2.1 : Int)] 0)]) (m := m) (by simp; omega) (ho'.up fun i _ hl => hget_old hl _) (SlAt.new1 h' 18446744073709551615 ((dec 0 0 (bs.drop a)).2.1 : Int)) (by rfl) (by rw [numsA_len]; simp; omega)
        rw [show numsA L ++ [.int 18446744073709551615 ((dec 0 0 (bs.drop a)).2.1 : Int)] = numsA (L ++ [(dec 0 0 (bs.drop a)).2.1]) by simp [numsA]] at a2
        have hlh : h'.length ≤ g2.length := Nat.le_trans (by simp) a3.1
        have hF2 : Fr H.length H g2 := ⟨Nat.le_trans hF'.1 hlh, fun i hi => by rw [a3.2 i (by omega), hget_old (by have := hF'.1; omega)]; exact hF'.2 i hi⟩
        have hg2 : hget g2 q = some (.cells [d, .int 9223372036854775807 ((a + (dec 0 0 (bs.drop a)).2.2 : Nat) : Int)] y) := by
          rw [a3.2 q hm, hget_old (hget_of_lt r4)]; exact r4
        have hrec := ih (a + (dec 0 0 (bs.drop a)).2.2) (f + 1) g2 out' (L ++ [(dec 0 0 (bs.drop a)).2.1]) (.int 18446744073709551615 ((dec 0 0 (bs.drop a)).2.1 : Int)) (.int 9223372036854775807 ((0 : Nat) : Int)) (.bool true) (.bool false) (by omega) (by omega) (by omega) (by simp; omega) hF2 (by omega) hg2 a2
        have n0 : decide (((0 : Nat) : Int) ≠ 0) = false := by decide
        rw [rl_lp]
        simp only [guardC_b, guardC_u, beqB_tt, beqB_tf, beqB_ft, beqB_ff, min_eq, max_eq, vhO_kVH, ckN_eq, ckE_eq, List.length_set, ckX_same, bldS_int2, lt_agg, lt_tup, lt_int, lt_bool, lt_str, lt_nils, lt_sle, lt_nil, lt_slp, lt_ptp, kNrm_st, obindS, obindN, kThen_nrm, kThen_ret, kThen_exit, kOut_nrm, kOut_ret, kOut_exit, kIf_b, bqT, bqF, moveA_eq, pickA_eq, boxA_eq, newA_eq, cmp_eq, arith_eq, remA_eq, quoA_eq, notA_eq, negA_eq, cvI_eq, moveP_o, moveP_p, blkC_cells, load1_o, load1_p, loadG_o, loadG_p, store1_o, storeG_o, lenS_nils, lenS_sle, lenS_p, lenS_o, lenT_eq, idxS_p, idxS_o, idxT_eq, idxA_o, idxV1_eq, fld1_eq, fldG_eq, extA_eq, nilCk_o, nilCk_p, strAdd_eq, strCmp_eq, withX_some, withX_none, iaddE, isubE, imulE, iltE, igtE, ileE, igeE, ineE, ibeqE, hget_top, hget_zero, hget_succ, set_top, plains_nil, plains_cons, plain_int, plain_bool, plain_str, plain_nils, plain_slp, plain_sle, plain_nil, plain_pto, plain_ptp, plain_slo, nb_agg, nb_int, nb_bool, nb_str, nb_slp, nb_nils, nb_sle, nb_slo, cells_agg, cells_int, cells_bool, cells_str, List.length_cons, List.length_nil, List.length_append, List.take_succ_cons, List.take_zero, List.drop_succ_cons, List.drop_zero, List.cons_append, List.nil_append, List.append_nil, List.drop_nil, List.take_nil, List.getElem?_cons_zero, List.getElem?_cons_succ, List.set_cons_zero, List.set_cons_succ, Nat.reduceAdd, Nat.reduceMul, Nat.reduceSub, Nat.reduceLeDiff, Nat.reduceEqDiff, Nat.reduceLT, Nat.zero_add, Nat.add_zero, decide_true, decide_false, Bool.and_true, Bool.true_and, Bool.and_false, Bool.false_and, Bool.not_true, Bool.not_false, Nat.le_refl, reduceIte, kPkd_0_eq, kPkd_1_eq, kPkd_2_eq, kPkd_3_eq, kPkd_4_eq, kPkd_5_eq, kPkd_6_eq, kPkd_7_eq, kPkd_8_eq, kPkd_9_eq, kPkd_10_eq, kPkd_11_eq, kPkd_12_eq, kPkd_13_eq, kPkd_14_eq, kPkd_15_eq, kPkd_16_eq, kPkd_17_eq, kPkd_18_eq, kPkd_19_eq, kPkd_20_eq, kPkd_21_eq, kPkd_22_eq, kPkd_23_eq, kPkd_24_eq, kPkd_25_eq, kPkd_26_eq, kPkd_27_eq, kPkd_28_eq, kPkd_29_eq, kPkd_30_eq, kPkd_31_eq, kPkd_32_eq, kPkd_33_eq, kPkd_34_eq, kPkd_35_eq, kPkd_36_eq, kPkd_37_eq, kPkd_ret, kPkd_nrm, hleft, dz, hread, n0, bldS_1, a1]
        unfold PkPost at hrec ⊢
        rw [hres]
        rw [List.append_assoc] at hrec
        exact hrec
      · have hres : decs (k + 1) (bs.drop a) = ((dec 0 0 (bs.drop a)).1, []) := by
          conv => lhs; unfold decs
          rw [if_neg hz, if_pos hcode]
        have nc : decide (((dec 0 0 (bs.drop a)).1 : Int) ≠ 0) = true := by rw [decide_eq_true_iff]; omega
        unfold PkPost
        rw [hres, if_neg hcode]
        apply Exists.intro
        refine ⟨?_, ?_, ?_⟩
        · rw [rl_lp]
          simp only [guardC_b, guardC_u, beqB_tt, beqB_tf, beqB_ft, beqB_ff, min_eq, max_eq, vhO_kVH, ckN_eq, ckE_eq, List.length_set, ckX_same, bldS_int2, lt_agg, lt_tup, lt_int, lt_bool, lt_str, lt_nils, lt_sle, lt_nil, lt_slp, lt_ptp, kNrm_st, obindS, obindN, kThen_nrm, kThen_ret, kThen_exit, kOut_nrm, kOut_ret, kOut_exit, kIf_b, bqT, bqF, moveA_eq, pickA_eq, boxA_eq, newA_eq, cmp_eq, arith_eq, remA_eq, quoA_eq, notA_eq, negA_eq, cvI_eq, moveP_o, moveP_p, blkC_cells, load1_o, load1_p, loadG_o, loadG_p, store1_o, storeG_o, lenS_nils, lenS_sle, lenS_p, lenS_o, lenT_eq, idxS_p, idxS_o, idxT_eq, idxA_o, idxV1_eq, fld1_eq, fldG_eq, extA_eq, nilCk_o, nilCk_p, strAdd_eq, strCmp_eq, withX_some, withX_none, iaddE, isubE, imulE, iltE, igtE, ileE, igeE, ineE, ibeqE, hget_top, hget_zero, hget_succ, set_top, plains_nil, plains_cons, plain_int, plain_bool, plain_str, plain_nils, plain_slp, plain_sle, plain_nil, plain_pto, plain_ptp, plain_slo, nb_agg, nb_int, nb_bool, nb_str, nb_slp, nb_nils, nb_sle, nb_slo, cells_agg, cells_int, cells_bool, cells_str, List.length_cons, List.length_nil, List.length_append, List.take_succ_cons, List.take_zero, List.drop_succ_cons, List.drop_zero, List.cons_append, List.nil_append, List.append_nil, List.drop_nil, List.take_nil, List.getElem?_cons_zero, List.getElem?_cons_succ, List.set_cons_zero, List.set_cons_succ, Nat.reduceAdd, Nat.reduceMul, Nat.reduceSub, Nat.reduceLeDiff, Nat.reduceEqDiff, Nat.reduceLT, Nat.zero_add, Nat.add_zero, decide_true, decide_false, Bool.and_true, Bool.true_and, Bool.and_false, Bool.false_and, Bool.not_true, Bool.not_false, Nat.le_refl, reduceIte, kPkd_0_eq, kPkd_1_eq, kPkd_2_eq, kPkd_3_eq, kPkd_4_eq, kPkd_5_eq, kPkd_6_eq, kPkd_7_eq, kPkd_8_eq, kPkd_9_eq, kPkd_10_eq, kPkd_11_eq, kPkd_12_eq, kPkd_13_eq, kPkd_14_eq, kPkd_15_eq, kPkd_16_eq, kPkd_17_eq, kPkd_18_eq, kPkd_19_eq, kPkd_20_eq, kPkd_21_eq, kPkd_22_eq, kPkd_23_eq, kPkd_24_eq, kPkd_25_eq, kPkd_26_eq, kPkd_27_eq, kPkd_28_eq, kPkd_29_eq, kPkd_30_eq, kPkd_31_eq, kPkd_32_eq, kPkd_33_eq, kPkd_34_eq, kPkd_35_eq, kPkd_36_eq, kPkd_37_eq, kPkd_ret, kPkd_nrm, hleft, dz, hread, nc]
          rfl
        · exact kPkd_ret ..
        · exact hF'
theorem pkd_run (mx : Int) (f : Nat) {h : AH} {n t v d : AV} {bs : List Nat} {T : Int} (ht : t = .int 9223372036854775807 T) (hn : n.plain = true) (hv : v.plain = true) (hd : SlAt h d (bytesA bs)) (hb : bs.length ≤ 100000) (hc : ∀ c ∈ bs, c < 256) (hf : bs.length + 40 ≤ f) :
    ∃ out h', (rl (CL mx) (f + 1)).run 7 [.agg [n, t, v, d]] h = some (.tup [out, .int 9223372036854775807 ((if T = 2 then (decs (bs.length + 1) bs).1 else 213 : Nat) : Int)], h') ∧ SlAt h' out (numsA (if T = 2 ∧ (decs (bs.length + 1) bs).1 = 0 then (decs (bs.length + 1) bs).2 else [])) ∧ Fr h.length h h' := by
  subst ht
  rw [rl_run, kPkd_run _ _ _ _ _ (by kernel_rfl) (kPkd_fk mx)]
  by_cases hT : T = 2
  · subst hT
    have d2 : decide ((2 : Int) ≠ 2) = false := by decide
    obtain ⟨q, y, h1, e1, e2, e3, e4⟩ := new_call mx (f - 1) (hd.up (Fr.push (Nat.le_refl _) [some (.cells [n, .int 9223372036854775807 2, v, d] (29 + 1))]))
    rw [show f - 1 + 1 = f by omega] at e1
    have hF : Fr h.length h h1 := ⟨Nat.le_trans (by simp) e3.1, fun i hi => by rw [e3.2 i (by simp; omega), hget_old hi]⟩
    have hl := pkd_loop mx hd hb hc (q := q) (y := y) (m := h1.length) (by simp at e4; omega) (hget_of_lt e2) (.agg [n, .int 9223372036854775807 2, v, d]) (.pto h.length 0) .nils (.int 9223372036854775807 0) (.bool false) (bs.length + 1) 0 f h1 .nils [] .bot .bot .bot .bot (by omega) (by omega) (by omega) (by simp) hF (Nat.le_refl _) e2 (.inl ⟨rfl, rfl⟩)
    rw [List.drop_zero] at hl
    unfold PkPost at hl
    split at hl
    · rename_i hcode
      obtain ⟨s, l1, out', u6, u7, u16, u23, g', rfl, l2, l3⟩ := hl
      refine ⟨out', g', ?_, ?_, l3⟩
      · simp only [guardC_b, guardC_u, beqB_tt, beqB_tf, beqB_ft, beqB_ff, min_eq, max_eq, vhO_kVH, ckN_eq, ckE_eq, List.length_set, ckX_same, bldS_int2, lt_agg, lt_tup, lt_int, lt_bool, lt_str, lt_nils, lt_sle, lt_nil, lt_slp, lt_ptp, kNrm_st, obindS, obindN, kThen_nrm, kThen_ret, kThen_exit, kOut_nrm, kOut_ret, kOut_exit, kIf_b, bqT, bqF, moveA_eq, pickA_eq, boxA_eq, newA_eq, cmp_eq, arith_eq, remA_eq, quoA_eq, notA_eq, negA_eq, cvI_eq, moveP_o, moveP_p, blkC_cells, load1_o, load1_p, loadG_o, loadG_p, store1_o, storeG_o, lenS_nils, lenS_sle, lenS_p, lenS_o, lenT_eq, idxS_p, idxS_o, idxT_eq, idxA_o, idxV1_eq, fld1_eq, fldG_eq, extA_eq, nilCk_o, nilCk_p, strAdd_eq, strCmp_eq, withX_some, withX_none, iaddE, isubE, imulE, iltE, igtE, ileE, igeE, ineE, ibeqE, hget_top, hget_zero, hget_succ, set_top, plains_nil, plains_cons, plain_int, plain_bool, plain_str, plain_nils, plain_slp, plain_sle, plain_nil, plain_pto, plain_ptp, plain_slo, nb_agg, nb_int, nb_bool, nb_str, nb_slp, nb_nils, nb_sle, nb_slo, cells_agg, cells_int, cells_bool, cells_str, List.length_cons, List.length_nil, List.length_append, List.take_succ_cons, List.take_zero, List.drop_succ_cons, List.drop_zero, List.cons_append, List.nil_append, List.append_nil, List.drop_nil, List.take_nil, List.getElem?_cons_zero, List.getElem?_cons_succ, List.set_cons_zero, List.set_cons_succ, Nat.reduceAdd, Nat.reduceMul, Nat.reduceSub, Nat.reduceLeDiff, Nat.reduceEqDiff, Nat.reduceLT, Nat.zero_add, Nat.add_zero, decide_true, decide_false, Bool.and_true, Bool.true_and, Bool.and_false, Bool.false_and, Bool.not_true, Bool.not_false, Nat.le_refl, reduceIte, kPkd_0_eq, kPkd_1_eq, kPkd_2_eq, kPkd_3_eq, kPkd_4_eq, kPkd_5_eq, kPkd_6_eq, kPkd_7_eq, kPkd_8_eq, kPkd_9_eq, kPkd_10_eq, kPkd_11_eq, kPkd_12_eq, kPkd_13_eq, kPkd_14_eq, kPkd_15_eq, kPkd_16_eq, kPkd_17_eq, kPkd_18_eq, kPkd_19_eq, kPkd_20_eq, kPkd_21_eq, kPkd_22_eq, kPkd_23_eq, kPkd_24_eq, kPkd_25_eq, kPkd_26_eq, kPkd_27_eq, kPkd_28_eq, kPkd_29_eq, kPkd_30_eq, kPkd_31_eq, kPkd_32_eq, kPkd_33_eq, kPkd_34_eq, kPkd_35_eq, kPkd_36_eq, kPkd_37_eq, kPkd_ret, kPkd_nrm, -kPkd_27_eq, d2, e1, l1, hcode]
        rfl
      · rw [if_pos ⟨rfl, hcode⟩]; simpa using l2
    · rename_i hcode
      obtain ⟨s, l1, l2, l3⟩ := hl
      refine ⟨.nils, s.h, ?_, ?_, l3⟩
      · simp only [guardC_b, guardC_u, beqB_tt, beqB_tf, beqB_ft, beqB_ff, min_eq, max_eq, vhO_kVH, ckN_eq, ckE_eq, List.length_set, ckX_same, bldS_int2, lt_agg, lt_tup, lt_int, lt_bool, lt_str, lt_nils, lt_sle, lt_nil, lt_slp, lt_ptp, kNrm_st, obindS, obindN, kThen_nrm, kThen_ret, kThen_exit, kOut_nrm, kOut_ret, kOut_exit, kIf_b, bqT, bqF, moveA_eq, pickA_eq, boxA_eq, newA_eq, cmp_eq, arith_eq, remA_eq, quoA_eq, notA_eq, negA_eq, cvI_eq, moveP_o, moveP_p, blkC_cells, load1_o, load1_p, loadG_o, loadG_p, store1_o, storeG_o, lenS_nils, lenS_sle, lenS_p, lenS_o, lenT_eq, idxS_p, idxS_o, idxT_eq, idxA_o, idxV1_eq, fld1_eq, fldG_eq, extA_eq, nilCk_o, nilCk_p, strAdd_eq, strCmp_eq, withX_some, withX_none, iaddE, isubE, imulE, iltE, igtE, ileE, igeE, ineE, ibeqE, hget_top, hget_zero, hget_succ, set_top, plains_nil, plains_cons, plain_int, plain_bool, plain_str, plain_nils, plain_slp, plain_sle, plain_nil, plain_pto, plain_ptp, plain_slo, nb_agg, nb_int, nb_bool, nb_str, nb_slp, nb_nils, nb_sle, nb_slo, cells_agg, cells_int, cells_bool, cells_str, List.length_cons, List.length_nil, List.length_append, List.take_succ_cons, List.take_zero, List.drop_succ_cons, List.drop_zero, List.cons_append, List.nil_append, List.append_nil, List.drop_nil, List.take_nil, List.getElem?_cons_zero, List.getElem?_cons_succ, List.set_cons_zero, List.set_cons_succ, Nat.reduceAdd, Nat.reduceMul, Nat.reduceSub, Nat.reduceLeDiff, Nat.reduceEqDiff, Nat.reduceLT, Nat.zero_add, Nat.add_zero, decide_true, decide_false, Bool.and_true, Bool.true_and, Bool.and_false, Bool.false_and, Bool.not_true, Bool.not_false, Nat.le_refl, reduceIte, kPkd_0_eq, kPkd_1_eq, kPkd_2_eq, kPkd_3_eq, kPkd_4_eq, kPkd_5_eq, kPkd_6_eq, kPkd_7_eq, kPkd_8_eq, kPkd_9_eq, kPkd_10_eq, kPkd_11_eq, kPkd_12_eq, kPkd_13_eq, kPkd_14_eq, kPkd_15_eq, kPkd_16_eq, kPkd_17_eq, kPkd_18_eq, kPkd_19_eq, kPkd_20_eq, kPkd_21_eq, kPkd_22_eq, kPkd_23_eq, kPkd_24_eq, kPkd_25_eq, kPkd_26_eq, kPkd_27_eq, kPkd_28_eq, kPkd_29_eq, kPkd_30_eq, kPkd_31_eq, kPkd_32_eq, kPkd_33_eq, kPkd_34_eq, kPkd_35_eq, kPkd_36_eq, kPkd_37_eq, kPkd_ret, kPkd_nrm, -kPkd_27_eq, d2, e1, l1, l2]
      · rw [if_neg (fun e => hcode e.2)]; exact .inl ⟨rfl, .inl rfl⟩
  · have d2 : decide (T ≠ 2) = true := by rw [decide_eq_true_iff]; exact hT
    refine ⟨.nils, h ++ [some (.cells [n, .int 9223372036854775807 T, v, d] (29 + 1))], ?_, ?_, Fr.push (Nat.le_refl _) _⟩
    · simp only [guardC_b, guardC_u, beqB_tt, beqB_tf, beqB_ft, beqB_ff, min_eq, max_eq, vhO_kVH, ckN_eq, ckE_eq, List.length_set, ckX_same, bldS_int2, lt_agg, lt_tup, lt_int, lt_bool, lt_str, lt_nils, lt_sle, lt_nil, lt_slp, lt_ptp, kNrm_st, obindS, obindN, kThen_nrm, kThen_ret, kThen_exit, kOut_nrm, kOut_ret, kOut_exit, kIf_b, bqT, bqF, moveA_eq, pickA_eq, boxA_eq, newA_eq, cmp_eq, arith_eq, remA_eq, quoA_eq, notA_eq, negA_eq, cvI_eq, moveP_o, moveP_p, blkC_cells, load1_o, load1_p, loadG_o, loadG_p, store1_o, storeG_o, lenS_nils, lenS_sle, lenS_p, lenS_o, lenT_eq, idxS_p, idxS_o, idxT_eq, idxA_o, idxV1_eq, fld1_eq, fldG_eq, extA_eq, nilCk_o, nilCk_p, strAdd_eq, strCmp_eq, withX_some, withX_none, iaddE, isubE, imulE, iltE, igtE, ileE, igeE, ineE, ibeqE, hget_top, hget_zero, hget_succ, set_top, plains_nil, plains_cons, plain_int, plain_bool, plain_str, plain_nils, plain_slp, plain_sle, plain_nil, plain_pto, plain_ptp, plain_slo, nb_agg, nb_int, nb_bool, nb_str, nb_slp, nb_nils, nb_sle, nb_slo, cells_agg, cells_int, cells_bool, cells_str, List.length_cons, List.length_nil, List.length_append, List.take_succ_cons, List.take_zero, List.drop_succ_cons, List.drop_zero, List.cons_append, List.nil_append, List.append_nil, List.drop_nil, List.take_nil, List.getElem?_cons_zero, List.getElem?_cons_succ, List.set_cons_zero, List.set_cons_succ, Nat.reduceAdd, Nat.reduceMul, Nat.reduceSub, Nat.reduceLeDiff, Nat.reduceEqDiff, Nat.reduceLT, Nat.zero_add, Nat.add_zero, decide_true, decide_false, Bool.and_true, Bool.true_and, Bool.and_false, Bool.false_and, Bool.not_true, Bool.not_false, Nat.le_refl, reduceIte, kPkd_0_eq, kPkd_1_eq, kPkd_2_eq, kPkd_3_eq, kPkd_4_eq, kPkd_5_eq, kPkd_6_eq, kPkd_7_eq, kPkd_8_eq, kPkd_9_eq, kPkd_10_eq, kPkd_11_eq, kPkd_12_eq, kPkd_13_eq, kPkd_14_eq, kPkd_15_eq, kPkd_16_eq, kPkd_17_eq, kPkd_18_eq, kPkd_19_eq, kPkd_20_eq, kPkd_21_eq, kPkd_22_eq, kPkd_23_eq, kPkd_24_eq, kPkd_25_eq, kPkd_26_eq, kPkd_27_eq, kPkd_28_eq, kPkd_29_eq, kPkd_30_eq, kPkd_31_eq, kPkd_32_eq, kPkd_33_eq, kPkd_34_eq, kPkd_35_eq, kPkd_36_eq, kPkd_37_eq, kPkd_ret, kPkd_nrm, d2, hT]
      rfl
    · rw [if_neg (fun e => hT e.1)]; exact .inl ⟨rfl, .inl rfl⟩
end Go.Proofs.YtgjccdampinbgaaGreatDoor
