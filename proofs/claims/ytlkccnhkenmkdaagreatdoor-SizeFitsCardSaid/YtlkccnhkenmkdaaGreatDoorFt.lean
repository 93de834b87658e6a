/- The law SizeFits: its run. The functions' code is printed by a program. -/
import Derived.Test.YtlkccnhkenmkdaaGreatDoorMF
import Derived.Test.YtlkccnhkenmkdaaGreatDoorBo
import Derived.Test.YtlkccnhkenmkdaaGreatDoorSr
import Derived.Test.YtlkccnhkenmkdaaGreatDoorKy
import Derived.Test.YtlkccnhkenmkdaaGreatDoorME
namespace Go.Proofs.YtlkccnhkenmkdaaGreatDoor
set_option linter.unusedSimpArgs false
set_option linter.unusedVariables false
set_option linter.unnecessarySimpa false
set_option linter.defProp false
noncomputable section
/-- The equations below are said of any table: the kernel is not to look into this one. -/
structure MT where
  m : Int
  t : BT (List (List AV × AV))
def CL (mx : MT) : Cx := (CT mx.m).told mx.t
/- guipure/guipurelaw23.SizeFits -/
def kLaw_T (v0 v1 v2 v3 v6 v7 v9 v15 : AV) : Tm := (.nd 6 (.nd 2 (.nd 1 (.lf 0 v0) (.lf 1 v1)) (.nd 3 (.lf 2 v2) (.lf 3 v3))) (.nd 9 (.nd 7 (.lf 6 v6) (.lf 7 v7)) (.nd 15 (.lf 9 v9) (.lf 15 v15))))
def kLaw_0 (mx : MT) : K := kAt [] (kOf (CL mx) 3)
section
set_option maxRecDepth 100000
variable (mx : MT) (run : Run) (lp : Lp) (κn : Kt) (κx : Ex → Kt) (h : AH) (v0 v1 v2 v3 v6 v7 v9 v15 : AV)
theorem kLaw_0_eq : kc (CL mx) run lp (kLaw_0 mx) ⟨kLaw_T v0 v1 v2 v3 v6 v7 v9 v15, h⟩ κn κx = boxA 25 v0 h (fun a0 h => withX (fun a1 h => notA a1 h (fun a2 h => kcIf a2 (κx .ret ⟨kLaw_T v0 v1 v2 a0 (.bool false) v7 a2 v15, h⟩) (cmp ilt v1 (.int 9223372036854775807 0) h (fun a3 h => guardC a3 false (fun κ => moveA v2 h κ) h (fun a4 h => guardC a3 false (fun κ => cmp ilt a4 (.int 9223372036854775807 0) h κ) h (fun a5 h => pickA a3 (.bool true) a5 h (fun a6 h => kcIf a6 (loadG 4 a0 h (fun a7 h => withX (fun a8 h => notA a8 h (fun a9 h => κx .ret ⟨kLaw_T v0 v1 v2 a0 a9 v7 a2 a6, h⟩)) (callA (CL mx) run 5 [a7, v1, v2] h))) (moveP 0 a0 h (fun a7 h => load1 a7 h (fun a8 h => cvI 18446744073709551615 v1 h (fun a9 h => cmp ile a8 a9 h (fun a10 h => guardC a10 true (fun κ => moveP 2 a0 h κ) h (fun a11 h => guardC a10 true (fun κ => load1 a11 h κ) h (fun a12 h => guardC a10 true (fun κ => moveA v2 h κ) h (fun a13 h => guardC a10 true (fun κ => cvI 18446744073709551615 a13 h κ) h (fun a14 h => guardC a10 true (fun κ => cmp ile a12 a14 h κ) h (fun a15 h => pickA a10 a15 (.bool false) h (fun a16 h => guardC a16 true (fun κ => moveP 1 a0 h κ) h (fun a17 h => guardC a16 true (fun κ => load1 a17 h κ) h (fun a18 h => guardC a16 true (fun κ => cmp ige a18 (.int 18446744073709551615 4611686018427387904) h κ) h (fun a19 h => guardC a16 true (fun κ => moveA a19 h κ) h (fun a20 h => guardC a20 false (fun κ => moveA v1 h κ) h (fun a21 h => guardC a20 false (fun κ => cvI 18446744073709551615 a21 h κ) h (fun a22 h => guardC a20 false (fun κ => moveP 1 a0 h κ) h (fun a23 h => guardC a20 false (fun κ => load1 a23 h κ) h (fun a24 h => guardC a20 false (fun κ => cmp ile a22 a24 h κ) h (fun a25 h => guardC a16 true (fun κ => pickA a20 (.bool true) a25 h κ) h (fun a26 h => pickA a16 a26 (.bool false) h (fun a27 h => guardC a27 true (fun κ => moveP 3 a0 h κ) h (fun a28 h => guardC a27 true (fun κ => load1 a28 h κ) h (fun a29 h => guardC a27 true (fun κ => cmp ige a29 (.int 18446744073709551615 4611686018427387904) h κ) h (fun a30 h => guardC a27 true (fun κ => moveA a30 h κ) h (fun a31 h => guardC a31 false (fun κ => moveA v2 h κ) h (fun a32 h => guardC a31 false (fun κ => cvI 18446744073709551615 a32 h κ) h (fun a33 h => guardC a31 false (fun κ => moveP 3 a0 h κ) h (fun a34 h => guardC a31 false (fun κ => load1 a34 h κ) h (fun a35 h => guardC a31 false (fun κ => cmp ile a33 a35 h κ) h (fun a36 h => guardC a27 true (fun κ => pickA a31 (.bool true) a36 h κ) h (fun a37 h => pickA a27 a37 (.bool false) h (fun a38 h => loadG 4 a0 h (fun a39 h => withX (fun a40 h => eqlA ⟨.bool, 1, 1, [.bool false], false, true⟩ a40 a38 h (fun a41 h => κx .ret ⟨kLaw_T v0 v1 v2 a0 a41 a38 a2 a6, h⟩)) (callA (CL mx) run 5 [a39, v1, v2] h)))))))))))))))))))))))))))))))))))))))))) (callA (CL mx) run 4 [] h)) := by kernel_rfl
theorem kLaw_end : kcE (CL mx) [.tmp 6] ⟨kLaw_T v0 v1 v2 v3 v6 v7 v9 v15, h⟩ = some (.vh v6 h) := (kcE_eq _ _ _).trans (by kernel_rfl)
theorem kLaw_fk : fkAt (CL mx) 3 = some ⟨kLaw_0 mx, [0, 1, 2, 3, 6, 7, 9, 15], 63, [.tmp 6]⟩ := by kernel_rfl
end
theorem kLaw_run (mx : MT) (run : Run) (lp : Lp) (x0 x1 x2 : AV) (h : AH) : runF (CL mx) run lp 3 [x0, x1, x2] h = vhO (kc (CL mx) run lp (kLaw_0 mx) ⟨kLaw_T x0 x1 x2 .bot .bot .bot .bot .bot, h⟩ (kcE (CL mx) [.tmp 6]) (kcQ (CL mx) [.tmp 6])) := (run_kc (by kernel_rfl) (kLaw_fk mx) (by kernel_rfl)).trans (by kernel_rfl)
theorem kLaw_nat (mx : MT) (p : List Nat) : NatK (CL mx) (kAt p (kOf (CL mx) 3)) := kAt_nat p (kOf_nat (CL mx) 3)
def kLaw_s := And.intro @kLaw_0_eq (@kLaw_end)
/- (guipure/size.Bounds).Fits -/
def kFit_T (v0 v1 v2 v3 v6 v7 v8 v14 : AV) : Tm := (.nd 6 (.nd 2 (.nd 1 (.lf 0 v0) (.lf 1 v1)) (.nd 3 (.lf 2 v2) (.lf 3 v3))) (.nd 8 (.nd 7 (.lf 6 v6) (.lf 7 v7)) (.nd 14 (.lf 8 v8) (.lf 14 v14))))
def kFit_0 (mx : MT) : K := kAt [] (kOf (CL mx) 5)
section
set_option maxRecDepth 100000
variable (mx : MT) (run : Run) (lp : Lp) (κn : Kt) (κx : Ex → Kt) (h : AH) (v0 v1 v2 v3 v6 v7 v8 v14 : AV)
theorem kFit_0_eq : kc (CL mx) run lp (kFit_0 mx) ⟨kFit_T v0 v1 v2 v3 v6 v7 v8 v14, h⟩ κn κx = boxA 25 v0 h (fun a0 h => cmp ilt v1 (.int 9223372036854775807 0) h (fun a1 h => guardC a1 false (fun κ => moveA v2 h κ) h (fun a2 h => guardC a1 false (fun κ => cmp ilt a2 (.int 9223372036854775807 0) h κ) h (fun a3 h => pickA a1 (.bool true) a3 h (fun a4 h => kcIf a4 (κx .ret ⟨kFit_T v0 v1 v2 a0 (.bool false) v7 v8 a4, h⟩) (moveP 1 a0 h (fun a5 h => load1 a5 h (fun a6 h => cmp ige a6 (.int 18446744073709551615 4611686018427387904) h (fun a7 h => guardC a7 false (fun κ => moveA v1 h κ) h (fun a8 h => guardC a7 false (fun κ => cvI 18446744073709551615 a8 h κ) h (fun a9 h => guardC a7 false (fun κ => moveP 1 a0 h κ) h (fun a10 h => guardC a7 false (fun κ => load1 a10 h κ) h (fun a11 h => guardC a7 false (fun κ => cmp ile a9 a11 h κ) h (fun a12 h => pickA a7 (.bool true) a12 h (fun a13 h => moveP 3 a0 h (fun a14 h => load1 a14 h (fun a15 h => cmp ige a15 (.int 18446744073709551615 4611686018427387904) h (fun a16 h => guardC a16 false (fun κ => moveA v2 h κ) h (fun a17 h => guardC a16 false (fun κ => cvI 18446744073709551615 a17 h κ) h (fun a18 h => guardC a16 false (fun κ => moveP 3 a0 h κ) h (fun a19 h => guardC a16 false (fun κ => load1 a19 h κ) h (fun a20 h => guardC a16 false (fun κ => cmp ile a18 a20 h κ) h (fun a21 h => pickA a16 (.bool true) a21 h (fun a22 h => cvI 18446744073709551615 v1 h (fun a23 h => moveP 0 a0 h (fun a24 h => load1 a24 h (fun a25 h => cmp ige a23 a25 h (fun a26 h => guardC a26 true (fun κ => moveA a13 h κ) h (fun a27 h => pickA a26 a27 (.bool false) h (fun a28 h => guardC a28 true (fun κ => moveA v2 h κ) h (fun a29 h => guardC a28 true (fun κ => cvI 18446744073709551615 a29 h κ) h (fun a30 h => guardC a28 true (fun κ => moveP 2 a0 h κ) h (fun a31 h => guardC a28 true (fun κ => load1 a31 h κ) h (fun a32 h => guardC a28 true (fun κ => cmp ige a30 a32 h κ) h (fun a33 h => pickA a28 a33 (.bool false) h (fun a34 h => guardC a34 true (fun κ => moveA a22 h κ) h (fun a35 h => pickA a34 a35 (.bool false) h (fun a36 h => κx .ret ⟨kFit_T v0 v1 v2 a0 a36 a13 a22 a4, h⟩)))))))))))))))))))))))))))))))))))))) := by kernel_rfl
theorem kFit_end : kcE (CL mx) [.tmp 6] ⟨kFit_T v0 v1 v2 v3 v6 v7 v8 v14, h⟩ = some (.vh v6 h) := (kcE_eq _ _ _).trans (by kernel_rfl)
theorem kFit_fk : fkAt (CL mx) 5 = some ⟨kFit_0 mx, [0, 1, 2, 3, 6, 7, 8, 14], 53, [.tmp 6]⟩ := by kernel_rfl
end
theorem kFit_run (mx : MT) (run : Run) (lp : Lp) (x0 x1 x2 : AV) (h : AH) : runF (CL mx) run lp 5 [x0, x1, x2] h = vhO (kc (CL mx) run lp (kFit_0 mx) ⟨kFit_T x0 x1 x2 .bot .bot .bot .bot .bot, h⟩ (kcE (CL mx) [.tmp 6]) (kcQ (CL mx) [.tmp 6])) := (run_kc (by kernel_rfl) (kFit_fk mx) (by kernel_rfl)).trans (by kernel_rfl)
theorem kFit_nat (mx : MT) (p : List Nat) : NatK (CL mx) (kAt p (kOf (CL mx) 5)) := kAt_nat p (kOf_nat (CL mx) 5)
def kFit_s := And.intro @kFit_0_eq (@kFit_end)
def tolT : BT (List (List AV × AV)) := .lf 4 [([], .bool true)]
end
theorem cl_ok {mx : Int} : CxOk Tryz.prog (CL ⟨mx, tolT⟩) := CxOk.told (ct_ok cs_ok) (show MemosOk Tryz.prog (CT mx) (.lf 4 [([], .bool true)]) from fun p hp => by
  rw [List.mem_singleton] at hp
  subst hp
  exact bo_head (ct_ok cs_ok))
/-- Does it fit? -/
def fitB (a c b d e f : Bool) : Bool := and (and (and a (or b d)) c) (or e f)
noncomputable def fitV (b0 b1 b2 b3 n p : Int) : Bool := bq (or (decide (n < 0)) (decide (p < 0))) false (fitB (decide (b0 ≤ n)) (decide (b2 ≤ p)) (decide (4611686018427387904 ≤ b1)) (decide (n ≤ b1)) (decide (4611686018427387904 ≤ b3)) (decide (p ≤ b3)))
section
variable {mx : MT} {b0 b1 b2 b3 n p : Int}
theorem fit_gives (hn : n ≤ 9223372036854775807) (hp : p ≤ 9223372036854775807) : Gives (fun r _ => r = .bool (fitV b0 b1 b2 b3 n p)) ((rl (CL mx) 5).run 5 [.agg [.int 18446744073709551615 b0, .int 18446744073709551615 b1, .int 18446744073709551615 b2, .int 18446744073709551615 b3], .int 9223372036854775807 n, .int 9223372036854775807 p] []) := by
  refine Gives.runs (n := 4) (kFit_run mx _ _ _ _ _ _) ?_
  unfold fitV
  by_cases h1 : n < 0
  · simp only [sy, List.length_append, Nat.reduceAdd, Nat.reduceMul, Nat.reduceSub, Nat.reduceLeDiff, Nat.reduceEqDiff, Nat.reduceLT, reduceIte, kFit_s, decide_eq_true h1]
    exact Ends.mk rfl
  · by_cases h2 : p < 0
    · simp only [sy, List.length_append, Nat.reduceAdd, Nat.reduceMul, Nat.reduceSub, Nat.reduceLeDiff, Nat.reduceEqDiff, Nat.reduceLT, reduceIte, kFit_s, decide_eq_false h1, decide_eq_true h2]
      exact Ends.mk rfl
    · have w1 : wrapA 18446744073709551615 n = n := wrapA_u64 (by omega) (by omega)
      have w2 : wrapA 18446744073709551615 p = p := wrapA_u64 (by omega) (by omega)
      have tf : ∀ b : Bool, b = true ∨ b = false := fun b => by cases b <;> simp
      rcases tf (decide (b0 ≤ n)) with hA | hA <;> rcases tf (decide (b2 ≤ p)) with hB | hB <;> rcases tf (decide (4611686018427387904 ≤ b1)) with hC | hC <;> rcases tf (decide (n ≤ b1)) with hD | hD <;> rcases tf (decide (4611686018427387904 ≤ b3)) with hE | hE <;> rcases tf (decide (p ≤ b3)) with hF | hF <;>
        (simp only [sy, List.length_append, Nat.reduceAdd, Nat.reduceMul, Nat.reduceSub, Nat.reduceLeDiff, Nat.reduceEqDiff, Nat.reduceLT, reduceIte, kFit_s, decide_eq_false h1, decide_eq_false h2, w1, w2, hA, hB, hC, hD, hE, hF]; exact Ends.mk rfl)
theorem pure_call {f : Nat} {args : List AV} {n : Nat} {v : AV} (g : Gives (fun r _ => r = v) ((rl (CL mx) n).run f args [])) (hp : ltL 0 args = true) (hv : v.lt 0 = true) (h : AH) (hx : (CL mx).ext f = none := by kernel_rfl) (hm : (CL mx).memo f args = none := by kernel_rfl) (ho : (CL mx).own f = false := by kernel_rfl) :
    callA (CL mx) (rl (CL mx) n).run f args h = some (v, h) := by
  obtain ⟨r, h1, e, rfl⟩ := g
  exact callA_pure hx hp hm e hv ho
end
theorem law_run {mx : Int} {b0 b1 b2 b3 n p : Int} (hn : n ≤ 9223372036854775807) (hp : p ≤ 9223372036854775807) : ∃ h', (rl (CL ⟨mx, tolT⟩) 6).run 3 [.agg [.int 18446744073709551615 b0, .int 18446744073709551615 b1, .int 18446744073709551615 b2, .int 18446744073709551615 b3], .int 9223372036854775807 n, .int 9223372036854775807 p] [] = some (.bool true, h') := by
  have g : Gives (fun r _ => r = .bool true) ((rl (CL ⟨mx, tolT⟩) 6).run 3 [.agg [.int 18446744073709551615 b0, .int 18446744073709551615 b1, .int 18446744073709551615 b2, .int 18446744073709551615 b3], .int 9223372036854775807 n, .int 9223372036854775807 p] []) := by
    refine Gives.runs (n := 5) (kLaw_run ⟨mx, tolT⟩ _ _ _ _ _ _) ?_
    have hhead := fun h => callA_memo (C := CL ⟨mx, tolT⟩) (run := (rl (CL ⟨mx, tolT⟩) 5).run) (h := h) (f := 4) (args := []) (v := .bool true) (by kernel_rfl) (by kernel_rfl) (by kernel_rfl)
    have hfit := fun h => pure_call (mx := ⟨mx, tolT⟩) (fit_gives (b0 := b0) (b1 := b1) (b2 := b2) (b3 := b3) hn hp) (by rfl) (by rfl) h
    by_cases h1 : n < 0
    · have hv : fitV b0 b1 b2 b3 n p = false := by unfold fitV; rw [decide_eq_true h1]; rfl
      rw [hv] at hfit
      simp only [sy, List.length_append, Nat.reduceAdd, Nat.reduceMul, Nat.reduceSub, Nat.reduceLeDiff, Nat.reduceEqDiff, Nat.reduceLT, reduceIte, kLaw_s, hhead, decide_eq_true h1, hfit]
      exact ⟨_, _, rfl, rfl⟩
    · by_cases h2 : p < 0
      · have hv : fitV b0 b1 b2 b3 n p = false := by unfold fitV; rw [decide_eq_false h1, decide_eq_true h2]; rfl
        rw [hv] at hfit
        simp only [sy, List.length_append, Nat.reduceAdd, Nat.reduceMul, Nat.reduceSub, Nat.reduceLeDiff, Nat.reduceEqDiff, Nat.reduceLT, reduceIte, kLaw_s, hhead, decide_eq_false h1, decide_eq_true h2, hfit]
        exact ⟨_, _, rfl, rfl⟩
      · have w1 : wrapA 18446744073709551615 n = n := wrapA_u64 (by omega) (by omega)
        have w2 : wrapA 18446744073709551615 p = p := wrapA_u64 (by omega) (by omega)
        have hv : fitV b0 b1 b2 b3 n p = fitB (decide (b0 ≤ n)) (decide (b2 ≤ p)) (decide (4611686018427387904 ≤ b1)) (decide (n ≤ b1)) (decide (4611686018427387904 ≤ b3)) (decide (p ≤ b3)) := by unfold fitV; rw [decide_eq_false h1, decide_eq_false h2]; rfl
        rw [hv] at hfit
        have tf : ∀ b : Bool, b = true ∨ b = false := fun b => by cases b <;> simp
        rcases tf (decide (b0 ≤ n)) with hA | hA <;> rcases tf (decide (b2 ≤ p)) with hB | hB <;> rcases tf (decide (4611686018427387904 ≤ b1)) with hC | hC <;> rcases tf (decide (n ≤ b1)) with hD | hD <;> rcases tf (decide (4611686018427387904 ≤ b3)) with hE | hE <;> rcases tf (decide (p ≤ b3)) with hF | hF <;>
          (rw [hA, hB, hC, hD, hE, hF] at hfit; simp only [sy, List.length_append, Nat.reduceAdd, Nat.reduceMul, Nat.reduceSub, Nat.reduceLeDiff, Nat.reduceEqDiff, Nat.reduceLT, reduceIte, kLaw_s, hhead, decide_eq_false h1, decide_eq_false h2, w1, w2, hA, hB, hC, hD, hE, hF, hfit]; exact ⟨_, _, rfl, rfl⟩)
  obtain ⟨r, h', e, rfl⟩ := g
  exact ⟨h', e⟩
set_option maxRecDepth 100000 in
theorem SizeFits_calls {W : World} {args : Array Value} {a0 a1 a2 : AV} {n0 n1 n2 : Nat} {mx : Int} (I : Inv (C0 mx) (· < W.heap.size) W ρ0 []) (hv : VL (· < W.heap.size) W [a0, a1, a2] ρ0 args.toList)
    (t0 : TyV Tryz.prog n0 24 a0) (t1 : TyV Tryz.prog n1 3 a1) (t2 : TyV Tryz.prog n2 3 a2) : Calls Tryz.prog 3 args W fun e w' => e = .returned (.bool true) ∧ RowKit.Below W.heap.size W w' := by
  obtain ⟨n, rfl, wn⟩ := TyV.int_ Tryz.underlying3 t1
  obtain ⟨p, rfl, wp⟩ := TyV.int_ Tryz.underlying3 t2
  obtain ⟨_, n1⟩ := Go.bounds_i64 wn
  obtain ⟨_, p1⟩ := Go.bounds_i64 wp
  obtain ⟨al, rfl, h⟩ := TyV.agg Tryz.underlying24 t0
  obtain ⟨m, h⟩ := TyC.struct_ Tryz.underlying24 h
  have h : TyL (TyC Tryz.prog m) [22, 22, 22, 22] al := h
  obtain ⟨b0, r0, rfl, h0, b1, r1, rfl, h1, b2, r2, rfl, h2, b3, r3, rfl, h3, hz⟩ := h
  rw [show r3 = [] from hz] at hv
  obtain ⟨c0, rfl, _⟩ := TyC.int_ Tryz.underlying22 h0
  obtain ⟨c1, rfl, _⟩ := TyC.int_ Tryz.underlying22 h1
  obtain ⟨c2, rfl, _⟩ := TyC.int_ Tryz.underlying22 h2
  obtain ⟨c3, rfl, _⟩ := TyC.int_ Tryz.underlying22 h3
  obtain ⟨h', e⟩ := law_run (mx := mx) (b0 := c0) (b1 := c1) (b2 := c2) (b3 := c3) (n := n) (p := p) (by omega) (by omega)
  exact calls_of_run (runN_ok cl_ok 6 _ _ _ _ _ e) (((I.of_gl (seqd_gl _ _)).of_gl (opened_gl _ _ _)).of_gl (told_gl _ _)) hv
end Go.Proofs.YtlkccnhkenmkdaaGreatDoor
