/- The law DnsResolves: its run. The functions' code is printed by a program. -/
import Derived.Test.YtgjoogfoeomcdaaGreatDoorMF
import Derived.Test.YtgjoogfoeomcdaaGreatDoorAs
import Derived.Test.YtgjoogfoeomcdaaGreatDoorME
import Derived.Test.YtgjoogfoeomcdaaGreatDoorDk
namespace Go.Proofs.YtgjoogfoeomcdaaGreatDoor
set_option linter.unusedSimpArgs false
set_option linter.unusedVariables false
set_option linter.unnecessarySimpa false
set_option linter.defProp false
noncomputable section
/-- The context: the head is told ahead, all other calls run where they are called. -/
def CL (mx : Int) : Cx := ((C1 mx).told (.lf 6 [([], .bool true)])).ownd fun f => not (Nat.beq f 6)
/- guipure/guipurelaw29.DnsResolves -/
def kLaw_T (v0 v1 v4 v5 v6 v7 v8 v9 v10 v11 v12 v14 v17 v32 v58 v60 : AV) : Tm := (.nd 10 (.nd 6 (.nd 4 (.nd 1 (.lf 0 v0) (.lf 1 v1)) (.nd 5 (.lf 4 v4) (.lf 5 v5))) (.nd 8 (.nd 7 (.lf 6 v6) (.lf 7 v7)) (.nd 9 (.lf 8 v8) (.lf 9 v9)))) (.nd 17 (.nd 12 (.nd 11 (.lf 10 v10) (.lf 11 v11)) (.nd 14 (.lf 12 v12) (.lf 14 v14))) (.nd 58 (.nd 32 (.lf 17 v17) (.lf 32 v32)) (.nd 60 (.lf 58 v58) (.lf 60 v60)))))
def kLaw_0 (mx : Int) : K := kAt [] (kOf (CL mx) 3)
section
set_option maxRecDepth 100000
variable (mx : Int) (run : Run) (lp : Lp) (κn : Kt) (κx : Ex → Kt) (h : AH) (v0 v1 v4 v5 v6 v7 v8 v9 v10 v11 v12 v14 v17 v32 v58 v60 : AV)
theorem kLaw_0_eq : kc (CL mx) run lp (kLaw_0 mx) ⟨kLaw_T v0 v1 v4 v5 v6 v7 v8 v9 v10 v11 v12 v14 v17 v32 v58 v60, h⟩ κn κx = withX (fun a0 h => notA a0 h (fun a1 h => kcIf a1 (κx .ret ⟨kLaw_T v0 v1 (.bool false) v5 v6 v7 v8 v9 v10 v11 v12 a1 v17 v32 v58 v60, h⟩) (lenS v0 h (fun a2 h => cmp igt a2 (.int 9223372036854775807 400) h (fun a3 h => kcIf a3 (κx .ret ⟨kLaw_T v0 v1 (.bool true) v5 v6 v7 v8 v9 v10 v11 v12 a1 a3 v32 v58 v60, h⟩) (withX (fun a4 h => extA 0 a4 h (fun a5 h => extA 1 a4 h (fun a6 h => extA 2 a4 h (fun a7 h => cmp ilt v1 (.int 9223372036854775807 0) h (fun a8 h => guardC a8 false (fun κ => moveA v1 h κ) h (fun a9 h => guardC a8 false (fun κ => moveA v0 h κ) h (fun a10 h => guardC a8 false (fun κ => lenS a10 h κ) h (fun a11 h => guardC a8 false (fun κ => cmp igt a9 a11 h κ) h (fun a12 h => pickA a8 (.bool true) a12 h (fun a13 h => kcIf a13 (cmp ibeq a7 (.int 9223372036854775807 1) h (fun a14 h => guardC a14 true (fun κ => moveA a5 h κ) h (fun a15 h => guardC a14 true (fun κ => lenS a15 h κ) h (fun a16 h => guardC a14 true (fun κ => cmp ibeq a16 (.int 9223372036854775807 0) h κ) h (fun a17 h => pickA a14 a17 (.bool false) h (fun a18 h => guardC a18 true (fun κ => moveA a6 h κ) h (fun a19 h => guardC a18 true (fun κ => cmp ibeq a19 (.int 9223372036854775807 0) h κ) h (fun a20 h => pickA a18 a20 (.bool false) h (fun a21 h => κx .ret ⟨kLaw_T v0 v1 a21 a5 a6 a7 v8 v9 v10 v11 v12 a1 a3 a13 v58 v60, h⟩))))))))) (withX (fun a14 h => extA 0 a14 h (fun a15 h => extA 1 a14 h (fun a16 h => cmp ine a7 a16 h (fun a17 h => guardC a17 false (fun κ => moveA a5 h κ) h (fun a18 h => guardC a17 false (fun κ => moveA a15 h κ) h (fun a19 h => guardC a17 false (fun κ => withX κ (callA (CL mx) run 9 [a18, a19] h)) h (fun a20 h => guardC a17 false (fun κ => notA a20 h κ) h (fun a21 h => pickA a17 (.bool true) a21 h (fun a22 h => kcIf a22 (κx .ret ⟨kLaw_T v0 v1 (.bool false) a5 a6 a7 a15 a16 v10 v11 v12 a1 a3 a13 a22 v60, h⟩) (cmp ine a7 (.int 9223372036854775807 0) h (fun a23 h => kcIf a23 (cmp ibeq a6 (.int 9223372036854775807 0) h (fun a24 h => κx .ret ⟨kLaw_T v0 v1 a24 a5 a6 a7 a15 a16 v10 v11 v12 a1 a3 a13 a22 a23, h⟩)) (slS 1 v0 (some v1) none none h (fun a24 h => withX (fun a25 h => extA 0 a25 h (fun a26 h => extA 1 a25 h (fun a27 h => extA 2 a25 h (fun a28 h => newA h (.cells [.nils, .int 9223372036854775807 0] 33) (fun a29 h => storeG 2 a29 a26 h (fun a30 h => guardC a28 true (fun κ => moveA a6 h κ) h (fun a31 h => guardC a28 true (fun κ => moveA v1 h κ) h (fun a32 h => guardC a28 true (fun κ => moveA a27 h κ) h (fun a33 h => guardC a28 true (fun κ => arith iadd a32 a33 h κ) h (fun a34 h => guardC a28 true (fun κ => cmp ibeq a31 a34 h κ) h (fun a35 h => pickA a28 a35 (.bool false) h (fun a36 h => guardC a36 true (fun κ => moveP 0 a29 h κ) h (fun a37 h => guardC a36 true (fun κ => load1 a37 h κ) h (fun a38 h => guardC a36 true (fun κ => lenS a38 h κ) h (fun a39 h => guardC a36 true (fun κ => moveA a5 h κ) h (fun a40 h => guardC a36 true (fun κ => lenS a40 h κ) h (fun a41 h => guardC a36 true (fun κ => cmp ile a39 a41 h κ) h (fun a42 h => pickA a36 a42 (.bool false) h (fun a43 h => κx .ret ⟨kLaw_T v0 v1 a43 a5 a6 a7 a15 a16 a29 a27 a28 a1 a3 a13 a22 a23, h⟩))))))))))))))))))) (callA (CL mx) run 10 [a24] h)))))))))))))) (callA (CL mx) run 8 [v0, v1, (.int 9223372036854775807 0), (.int 9223372036854775807 1)] h)))))))))))) (callA (CL mx) run 7 [v0, v1] h))))))) (callA (CL mx) run 6 [] h) := by kernel_rfl
theorem kLaw_end : kcE (CL mx) [.tmp 4] ⟨kLaw_T v0 v1 v4 v5 v6 v7 v8 v9 v10 v11 v12 v14 v17 v32 v58 v60, h⟩ = some (.vh v4 h) := (kcE_eq _ _ _).trans (by kernel_rfl)
theorem kLaw_fk : fkAt (CL mx) 3 = some ⟨kLaw_0 mx, [0, 1, 4, 5, 6, 7, 8, 9, 10, 11, 12, 14, 17, 32, 58, 60], 87, [.tmp 4]⟩ := by kernel_rfl
end
theorem kLaw_run (mx : Int) (run : Run) (lp : Lp) (x0 x1 : AV) (h : AH) : runF (CL mx) run lp 3 [x0, x1] h = vhO (kc (CL mx) run lp (kLaw_0 mx) ⟨kLaw_T x0 x1 .bot .bot .bot .bot .bot .bot .bot .bot .bot .bot .bot .bot .bot .bot, h⟩ (kcE (CL mx) [.tmp 4]) (kcQ (CL mx) [.tmp 4])) := (run_kc (by kernel_rfl) (kLaw_fk mx) (by kernel_rfl)).trans (by kernel_rfl)
theorem kLaw_nat (mx : Int) (p : List Nat) : NatK (CL mx) (kAt p (kOf (CL mx) 3)) := kAt_nat p (kOf_nat (CL mx) 3)
def kLaw_s := And.intro @kLaw_0_eq (@kLaw_end)
/- guipure/dns.Resolve -/
def kRes_T (v0 v1 v4 v5 v6 v7 v8 v9 v10 v11 v19 v23 v33 v37 v39 v52 v56 v61 v70 v76 v93 : AV) : Tm := (.nd 19 (.nd 7 (.nd 4 (.nd 1 (.lf 0 v0) (.lf 1 v1)) (.nd 5 (.lf 4 v4) (.nd 6 (.lf 5 v5) (.lf 6 v6)))) (.nd 9 (.nd 8 (.lf 7 v7) (.lf 8 v8)) (.nd 10 (.lf 9 v9) (.nd 11 (.lf 10 v10) (.lf 11 v11))))) (.nd 52 (.nd 33 (.nd 23 (.lf 19 v19) (.lf 23 v23)) (.nd 37 (.lf 33 v33) (.nd 39 (.lf 37 v37) (.lf 39 v39)))) (.nd 70 (.nd 56 (.lf 52 v52) (.nd 61 (.lf 56 v56) (.lf 61 v61))) (.nd 76 (.lf 70 v70) (.nd 93 (.lf 76 v76) (.lf 93 v93))))))
def kRes_0 (mx : Int) : K := kAt [] (kOf (CL mx) 7)
def kRes_1 (mx : Int) : K := kAt [1, 1, 1, 1, 0, 0] (kOf (CL mx) 7)
def kRes_2 (mx : Int) : K := kAt [1, 1, 1, 1, 0, 0, 0, 1, 1, 0, 1, 0, 0] (kOf (CL mx) 7)
def kRes_3 (mx : Int) : K := kAt [1, 1, 1, 1, 0, 0, 0, 1, 1, 0, 1, 0, 1] (kOf (CL mx) 7)
def kRes_4 (mx : Int) : K := kAt [1, 1, 1, 1, 0, 0, 0, 1, 1, 0, 1, 1, 1, 1, 1, 1, 1, 1, 0] (kOf (CL mx) 7)
def kRes_5 (mx : Int) : K := kAt [1, 1, 1, 1, 0, 0, 0, 1, 1, 0, 1, 1, 1, 1, 1, 1, 1, 1, 1] (kOf (CL mx) 7)
section
set_option maxRecDepth 100000
variable (mx : Int) (run : Run) (lp : Lp) (κn : Kt) (κx : Ex → Kt) (h : AH) (v0 v1 v4 v5 v6 v7 v8 v9 v10 v11 v19 v23 v33 v37 v39 v52 v56 v61 v70 v76 v93 : AV)
theorem kRes_0_eq : kc (CL mx) run lp (kRes_0 mx) ⟨kRes_T v0 v1 v4 v5 v6 v7 v8 v9 v10 v11 v19 v23 v33 v37 v39 v52 v56 v61 v70 v76 v93, h⟩ κn κx = cmp ilt v1 (.int 9223372036854775807 0) h (fun a0 h => guardC a0 false (fun κ => moveA v1 h κ) h (fun a1 h => guardC a0 false (fun κ => moveA v0 h κ) h (fun a2 h => guardC a0 false (fun κ => lenS a2 h κ) h (fun a3 h => guardC a0 false (fun κ => cmp igt a1 a3 h κ) h (fun a4 h => pickA a0 (.bool true) a4 h (fun a5 h => kcIf a5 (κx .ret ⟨kRes_T v0 v1 (.nils) (.int 9223372036854775807 0) (.int 9223372036854775807 1) v7 v8 v9 v10 v11 a5 v23 v33 v37 v39 v52 v56 v61 v70 v76 v93, h⟩) (kcR κn (kcO 0 κn κx) (lp (kRes_1 mx) ⟨kRes_T v0 v1 (.nils) (.int 9223372036854775807 0) (.int 9223372036854775807 0) (.nils) (.int 9223372036854775807 (-1)) (.int 9223372036854775807 0) (.int 9223372036854775807 1) v11 a5 v23 v33 v37 v39 v52 v56 v61 v70 v76 v93, h⟩)))))))) := by kernel_rfl
theorem kRes_1_eq : kc (CL mx) run lp (kRes_1 mx) ⟨kRes_T v0 v1 v4 v5 v6 v7 v8 v9 v10 v11 v19 v23 v33 v37 v39 v52 v56 v61 v70 v76 v93, h⟩ κn κx = lenS v0 h (fun a0 h => cmp ige v1 a0 h (fun a1 h => kcIf a1 (κx .ret ⟨kRes_T v0 v1 (.nils) (.int 9223372036854775807 0) (.int 9223372036854775807 10) v7 v8 v9 v10 v11 v19 a1 v33 v37 v39 v52 v56 v61 v70 v76 v93, h⟩) (idxS 1 v0 v1 h (fun a2 h => load1 a2 h (fun a3 h => cvI 9223372036854775807 a3 h (fun a4 h => cmp ibeq a4 (.int 9223372036854775807 0) h (fun a5 h => kcIf a5 (kc (CL mx) run lp (kRes_2 mx) ⟨kRes_T v0 v1 v4 v5 v6 v7 v8 v9 v10 a4 v19 a1 v33 v37 v39 a5 v56 v61 v70 v76 v93, h⟩ (fun s => kc (CL mx) run lp (kRes_3 mx) s κn (kcO 2 κn (kcO 1 κn κx))) (kcO 2 κn (kcO 1 κn κx))) (cmp ile a4 (.int 9223372036854775807 63) h (fun a6 h => kcIf a6 (arith iadd v1 (.int 9223372036854775807 1) h (fun a7 h => arith iadd a7 a4 h (fun a8 h => lenS v0 h (fun a9 h => cmp igt a8 a9 h (fun a10 h => kcIf a10 (κx .ret ⟨kRes_T v0 v1 (.nils) (.int 9223372036854775807 0) (.int 9223372036854775807 10) v7 v8 v9 v10 a4 v19 a1 v33 v37 v39 a5 v56 a6 a10 v76 v93, h⟩) (arith iadd a4 (.int 9223372036854775807 1) h (fun a11 h => arith iadd v10 a11 h (fun a12 h => cmp igt a12 (.int 9223372036854775807 255) h (fun a13 h => kcIf a13 (κx .ret ⟨kRes_T v0 v1 (.nils) (.int 9223372036854775807 0) (.int 9223372036854775807 2) v7 v8 v9 a12 a4 v19 a1 v33 v37 v39 a5 v56 a6 a10 a13 v93, h⟩) (arith iadd v1 (.int 9223372036854775807 1) h (fun a14 h => arith iadd v1 (.int 9223372036854775807 1) h (fun a15 h => arith iadd a15 a4 h (fun a16 h => slS 1 v0 (some a14) (some a16) none h (fun a17 h => bytesStr a17 h (fun a18 h => bldS 1 1 [.str []] [(0, a18)] h (fun a19 h => appA 10 1 16 v7 a19 h (fun a20 h => arith iadd (.int 9223372036854775807 1) a4 h (fun a21 h => arith iadd v1 a21 h (fun a22 h => κn ⟨kRes_T v0 a22 v4 v5 v6 a20 v8 v9 a12 a4 v19 a1 v33 v37 v39 a5 v56 a6 a10 a13 v93, h⟩))))))))))))))))))) (cmp ilt a4 (.int 9223372036854775807 192) h (fun a7 h => kcIf a7 (κx .ret ⟨kRes_T v0 v1 (.nils) (.int 9223372036854775807 0) (.int 9223372036854775807 212) v7 v8 v9 v10 a4 v19 a1 v33 v37 v39 a5 v56 a6 v70 v76 a7, h⟩) (arith iadd v1 (.int 9223372036854775807 2) h (fun a8 h => lenS v0 h (fun a9 h => cmp igt a8 a9 h (fun a10 h => kcIf a10 (κx .ret ⟨kRes_T v0 v1 (.nils) (.int 9223372036854775807 0) (.int 9223372036854775807 10) v7 v8 v9 v10 a4 v19 a1 a10 v37 v39 a5 v56 a6 v70 v76 a7, h⟩) (arith iadd v9 (.int 9223372036854775807 1) h (fun a11 h => cmp igt a11 (.int 9223372036854775807 64) h (fun a12 h => kcIf a12 (κx .ret ⟨kRes_T v0 v1 (.nils) (.int 9223372036854775807 0) (.int 9223372036854775807 6) v7 v8 a11 v10 a4 v19 a1 a10 a12 v39 a5 v56 a6 v70 v76 a7, h⟩) (kc (CL mx) run lp (kRes_4 mx) ⟨kRes_T v0 v1 v4 v5 v6 v7 v8 a11 v10 a4 v19 a1 a10 a12 v39 a5 v56 a6 v70 v76 a7, h⟩ (fun s => kc (CL mx) run lp (kRes_5 mx) s κn (kcO 2 κn (kcO 1 κn κx))) (kcO 2 κn (kcO 1 κn κx))))))))))))))))))))) := by kernel_rfl
theorem kRes_2_eq : kc (CL mx) run lp (kRes_2 mx) ⟨kRes_T v0 v1 v4 v5 v6 v7 v8 v9 v10 v11 v19 v23 v33 v37 v39 v52 v56 v61 v70 v76 v93, h⟩ κn κx = cmp ilt v8 (.int 9223372036854775807 0) h (fun a0 h => kcIf a0 (arith iadd v1 (.int 9223372036854775807 1) h (fun a1 h => κn ⟨kRes_T v0 v1 v4 v5 v6 v7 a1 v9 v10 v11 v19 v23 v33 v37 v39 v52 a0 v61 v70 v76 v93, h⟩)) (κn ⟨kRes_T v0 v1 v4 v5 v6 v7 v8 v9 v10 v11 v19 v23 v33 v37 v39 v52 a0 v61 v70 v76 v93, h⟩)) := by kernel_rfl
theorem kRes_3_eq : kc (CL mx) run lp (kRes_3 mx) ⟨kRes_T v0 v1 v4 v5 v6 v7 v8 v9 v10 v11 v19 v23 v33 v37 v39 v52 v56 v61 v70 v76 v93, h⟩ κn κx = κx .ret ⟨kRes_T v0 v1 v7 v8 (.int 9223372036854775807 0) v7 v8 v9 v10 v11 v19 v23 v33 v37 v39 v52 v56 v61 v70 v76 v93, h⟩ := by kernel_rfl
theorem kRes_4_eq : kc (CL mx) run lp (kRes_4 mx) ⟨kRes_T v0 v1 v4 v5 v6 v7 v8 v9 v10 v11 v19 v23 v33 v37 v39 v52 v56 v61 v70 v76 v93, h⟩ κn κx = cmp ilt v8 (.int 9223372036854775807 0) h (fun a0 h => kcIf a0 (arith iadd v1 (.int 9223372036854775807 2) h (fun a1 h => κn ⟨kRes_T v0 v1 v4 v5 v6 v7 a1 v9 v10 v11 v19 v23 v33 v37 a0 v52 v56 v61 v70 v76 v93, h⟩)) (κn ⟨kRes_T v0 v1 v4 v5 v6 v7 v8 v9 v10 v11 v19 v23 v33 v37 a0 v52 v56 v61 v70 v76 v93, h⟩)) := by kernel_rfl
theorem kRes_5_eq : kc (CL mx) run lp (kRes_5 mx) ⟨kRes_T v0 v1 v4 v5 v6 v7 v8 v9 v10 v11 v19 v23 v33 v37 v39 v52 v56 v61 v70 v76 v93, h⟩ κn κx = bitA 9223372036854775807 18446744073709551615 Nat.land v11 (.int 9223372036854775807 63) h (fun a0 h => shlA 9223372036854775807 64 a0 (.int 18446744073709551615 8) h (fun a1 h => arith iadd v1 (.int 9223372036854775807 1) h (fun a2 h => idxS 1 v0 a2 h (fun a3 h => load1 a3 h (fun a4 h => cvI 9223372036854775807 a4 h (fun a5 h => bitA 9223372036854775807 18446744073709551615 Nat.lor a1 a5 h (fun a6 h => κn ⟨kRes_T v0 a6 v4 v5 v6 v7 v8 v9 v10 v11 v19 v23 v33 v37 v39 v52 v56 v61 v70 v76 v93, h⟩))))))) := by kernel_rfl
theorem kRes_end : kcE (CL mx) [.tmp 4, .tmp 5, .tmp 6] ⟨kRes_T v0 v1 v4 v5 v6 v7 v8 v9 v10 v11 v19 v23 v33 v37 v39 v52 v56 v61 v70 v76 v93, h⟩ = some (.vh (.tup [v4, v5, v6]) h) := (kcE_eq _ _ _).trans (by kernel_rfl)
theorem kRes_fk : fkAt (CL mx) 7 = some ⟨kRes_0 mx, [0, 1, 4, 5, 6, 7, 8, 9, 10, 11, 19, 23, 33, 37, 39, 52, 56, 61, 70, 76, 93], 96, [.tmp 4, .tmp 5, .tmp 6]⟩ := by kernel_rfl
end
theorem kRes_run (mx : Int) (run : Run) (lp : Lp) (x0 x1 : AV) (h : AH) : runF (CL mx) run lp 7 [x0, x1] h = vhO (kc (CL mx) run lp (kRes_0 mx) ⟨kRes_T x0 x1 .bot .bot .bot .bot .bot .bot .bot .bot .bot .bot .bot .bot .bot .bot .bot .bot .bot .bot .bot, h⟩ (kcE (CL mx) [.tmp 4, .tmp 5, .tmp 6]) (kcQ (CL mx) [.tmp 4, .tmp 5, .tmp 6])) := (run_kc (by kernel_rfl) (kRes_fk mx) (by kernel_rfl)).trans (by kernel_rfl)
theorem kRes_nat (mx : Int) (p : List Nat) : NatK (CL mx) (kAt p (kOf (CL mx) 7)) := kAt_nat p (kOf_nat (CL mx) 7)
def kRes_s := And.intro @kRes_0_eq (And.intro @kRes_1_eq (And.intro @kRes_2_eq (And.intro @kRes_3_eq (And.intro @kRes_4_eq (And.intro @kRes_5_eq (@kRes_end))))))
/- guipure/guipurelaw29.follow -/
def kFol_T (v0 v1 v2 v3 v8 v9 v10 v11 v12 v16 v22 v25 v33 v38 v54 v68 v71 v77 : AV) : Tm := (.nd 16 (.nd 8 (.nd 2 (.nd 1 (.lf 0 v0) (.lf 1 v1)) (.nd 3 (.lf 2 v2) (.lf 3 v3))) (.nd 10 (.nd 9 (.lf 8 v8) (.lf 9 v9)) (.nd 11 (.lf 10 v10) (.nd 12 (.lf 11 v11) (.lf 12 v12))))) (.nd 38 (.nd 25 (.nd 22 (.lf 16 v16) (.lf 22 v22)) (.nd 33 (.lf 25 v25) (.lf 33 v33))) (.nd 68 (.nd 54 (.lf 38 v38) (.lf 54 v54)) (.nd 71 (.lf 68 v68) (.nd 77 (.lf 71 v71) (.lf 77 v77))))))
def kFol_0 (mx : Int) : K := kAt [] (kOf (CL mx) 8)
section
set_option maxRecDepth 100000
variable (mx : Int) (run : Run) (lp : Lp) (κn : Kt) (κx : Ex → Kt) (h : AH) (v0 v1 v2 v3 v8 v9 v10 v11 v12 v16 v22 v25 v33 v38 v54 v68 v71 v77 : AV)
theorem kFol_0_eq : kc (CL mx) run lp (kFol_0 mx) ⟨kFol_T v0 v1 v2 v3 v8 v9 v10 v11 v12 v16 v22 v25 v33 v38 v54 v68 v71 v77, h⟩ κn κx = lenS v0 h (fun a0 h => cmp ige v1 a0 h (fun a1 h => kcIf a1 (κx .ret ⟨kFol_T v0 v1 v2 v3 (.nils) (.int 9223372036854775807 10) v10 v11 v12 a1 v22 v25 v33 v38 v54 v68 v71 v77, h⟩) (idxS 1 v0 v1 h (fun a2 h => load1 a2 h (fun a3 h => cvI 9223372036854775807 a3 h (fun a4 h => cmp ibeq a4 (.int 9223372036854775807 0) h (fun a5 h => kcIf a5 (κx .ret ⟨kFol_T v0 v1 v2 v3 (.nils) (.int 9223372036854775807 0) a4 v11 v12 a1 a5 v25 v33 v38 v54 v68 v71 v77, h⟩) (cmp ilt a4 (.int 9223372036854775807 64) h (fun a6 h => kcIf a6 (arith iadd v1 a4 h (fun a7 h => lenS v0 h (fun a8 h => cmp ige a7 a8 h (fun a9 h => kcIf a9 (κx .ret ⟨kFol_T v0 v1 v2 v3 (.nils) (.int 9223372036854775807 10) a4 v11 v12 a1 a5 a6 a9 v38 v54 v68 v71 v77, h⟩) (arith iadd v3 a4 h (fun a10 h => arith iadd a10 (.int 9223372036854775807 1) h (fun a11 h => cmp igt a11 (.int 9223372036854775807 255) h (fun a12 h => kcIf a12 (κx .ret ⟨kFol_T v0 v1 v2 v3 (.nils) (.int 9223372036854775807 2) a4 v11 v12 a1 a5 a6 a9 a12 v54 v68 v71 v77, h⟩) (arith iadd v1 a4 h (fun a13 h => arith iadd a13 (.int 9223372036854775807 1) h (fun a14 h => arith iadd v3 a4 h (fun a15 h => arith iadd a15 (.int 9223372036854775807 1) h (fun a16 h => withX (fun a17 h => extA 0 a17 h (fun a18 h => extA 1 a17 h (fun a19 h => cmp ine a19 (.int 9223372036854775807 0) h (fun a20 h => kcIf a20 (κx .ret ⟨kFol_T v0 v1 v2 v3 (.nils) a19 a4 a18 a19 a1 a5 a6 a9 a12 a20 v68 v71 v77, h⟩) (arith iadd v1 (.int 9223372036854775807 1) h (fun a21 h => arith iadd v1 (.int 9223372036854775807 1) h (fun a22 h => arith iadd a22 a4 h (fun a23 h => slS 1 v0 (some a21) (some a23) none h (fun a24 h => bytesStr a24 h (fun a25 h => bldS 1 1 [.str []] [(0, a25)] h (fun a26 h => appA 10 1 16 a26 a18 h (fun a27 h => κx .ret ⟨kFol_T v0 v1 v2 v3 a27 (.int 9223372036854775807 0) a4 a18 a19 a1 a5 a6 a9 a12 a20 v68 v71 v77, h⟩)))))))))))) (callA (CL mx) run 8 [v0, a14, v2, a16] h)))))))))))))) (cmp ilt a4 (.int 9223372036854775807 192) h (fun a7 h => kcIf a7 (κx .ret ⟨kFol_T v0 v1 v2 v3 (.nils) (.int 9223372036854775807 212) a4 v11 v12 a1 a5 a6 v33 v38 v54 a7 v71 v77, h⟩) (arith iadd v1 (.int 9223372036854775807 1) h (fun a8 h => lenS v0 h (fun a9 h => cmp ige a8 a9 h (fun a10 h => kcIf a10 (κx .ret ⟨kFol_T v0 v1 v2 v3 (.nils) (.int 9223372036854775807 10) a4 v11 v12 a1 a5 a6 v33 v38 v54 a7 a10 v77, h⟩) (cmp ibeq v2 (.int 9223372036854775807 64) h (fun a11 h => kcIf a11 (κx .ret ⟨kFol_T v0 v1 v2 v3 (.nils) (.int 9223372036854775807 6) a4 v11 v12 a1 a5 a6 v33 v38 v54 a7 a10 a11, h⟩) (arith isub a4 (.int 9223372036854775807 192) h (fun a12 h => arith imul a12 (.int 9223372036854775807 256) h (fun a13 h => arith iadd v1 (.int 9223372036854775807 1) h (fun a14 h => idxS 1 v0 a14 h (fun a15 h => load1 a15 h (fun a16 h => cvI 9223372036854775807 a16 h (fun a17 h => arith iadd a13 a17 h (fun a18 h => arith iadd v2 (.int 9223372036854775807 1) h (fun a19 h => withX (fun a20 h => extA 0 a20 h (fun a21 h => extA 1 a20 h (fun a22 h => κx .ret ⟨kFol_T v0 v1 v2 v3 a21 a22 a4 v11 v12 a1 a5 a6 v33 v38 v54 a7 a10 a11, h⟩))) (callA (CL mx) run 8 [v0, a18, a19, v3] h))))))))))))))))))))))))))) := by kernel_rfl
theorem kFol_end : kcE (CL mx) [.tmp 8, .tmp 9] ⟨kFol_T v0 v1 v2 v3 v8 v9 v10 v11 v12 v16 v22 v25 v33 v38 v54 v68 v71 v77, h⟩ = some (.vh (.tup [v8, v9]) h) := (kcE_eq _ _ _).trans (by kernel_rfl)
theorem kFol_fk : fkAt (CL mx) 8 = some ⟨kFol_0 mx, [0, 1, 2, 3, 8, 9, 10, 11, 12, 16, 22, 25, 33, 38, 54, 68, 71, 77], 97, [.tmp 8, .tmp 9]⟩ := by kernel_rfl
end
theorem kFol_run (mx : Int) (run : Run) (lp : Lp) (x0 x1 x2 x3 : AV) (h : AH) : runF (CL mx) run lp 8 [x0, x1, x2, x3] h = vhO (kc (CL mx) run lp (kFol_0 mx) ⟨kFol_T x0 x1 x2 x3 .bot .bot .bot .bot .bot .bot .bot .bot .bot .bot .bot .bot .bot .bot, h⟩ (kcE (CL mx) [.tmp 8, .tmp 9]) (kcQ (CL mx) [.tmp 8, .tmp 9])) := (run_kc (by kernel_rfl) (kFol_fk mx) (by kernel_rfl)).trans (by kernel_rfl)
theorem kFol_nat (mx : Int) (p : List Nat) : NatK (CL mx) (kAt p (kOf (CL mx) 8)) := kAt_nat p (kOf_nat (CL mx) 8)
def kFol_s := And.intro @kFol_0_eq (@kFol_end)
/- guipure/guipurelaw29.name -/
def kNam_T (v0 v2 v3 v4 v5 v6 v7 v12 v18 v24 v31 v47 : AV) : Tm := (.nd 7 (.nd 4 (.nd 2 (.lf 0 v0) (.nd 3 (.lf 2 v2) (.lf 3 v3))) (.nd 5 (.lf 4 v4) (.nd 6 (.lf 5 v5) (.lf 6 v6)))) (.nd 24 (.nd 12 (.lf 7 v7) (.nd 18 (.lf 12 v12) (.lf 18 v18))) (.nd 31 (.lf 24 v24) (.nd 47 (.lf 31 v31) (.lf 47 v47)))))
def kNam_0 (mx : Int) : K := kAt [] (kOf (CL mx) 10)
def kNam_1 (mx : Int) : K := kAt [1, 1, 1, 0] (kOf (CL mx) 10)
def kNam_2 (mx : Int) : K := kAt [1, 1, 1, 1] (kOf (CL mx) 10)
def kNam_3 (mx : Int) : K := kAt [1, 1, 1, 0, 0, 0] (kOf (CL mx) 10)
def kNam_4 (mx : Int) : K := kAt [1, 1, 1, 0, 0, 0, 1, 0, 1, 1, 0] (kOf (CL mx) 10)
def kNam_5 (mx : Int) : K := kAt [1, 1, 1, 0, 0, 0, 1, 0, 1, 1, 1] (kOf (CL mx) 10)
section
set_option maxRecDepth 100000
variable (mx : Int) (run : Run) (lp : Lp) (κn : Kt) (κx : Ex → Kt) (h : AH) (v0 v2 v3 v4 v5 v6 v7 v12 v18 v24 v31 v47 : AV)
theorem kNam_0_eq : kc (CL mx) run lp (kNam_0 mx) ⟨kNam_T v0 v2 v3 v4 v5 v6 v7 v12 v18 v24 v31 v47, h⟩ κn κx = newA h (.cells [.nils, .int 9223372036854775807 0] 33) (fun a0 h => bldA (placeOf (CL mx) [(0, 24), (1, 3)]) [.nils, .int 9223372036854775807 0] [(1, (.int 9223372036854775807 (-1)))] h (fun a1 h => newA h (.cells [.nils, .int 9223372036854775807 0] 33) (fun a2 h => storeG 2 a2 a1 h (fun a3 h => kc (CL mx) run lp (kNam_1 mx) ⟨kNam_T v0 a0 (.int 9223372036854775807 0) (.bool false) a2 (.int 9223372036854775807 0) v7 v12 v18 v24 v31 v47, h⟩ (fun s => kc (CL mx) run lp (kNam_2 mx) s κn κx) κx)))) := by kernel_rfl
theorem kNam_1_eq : kc (CL mx) run lp (kNam_1 mx) ⟨kNam_T v0 v2 v3 v4 v5 v6 v7 v12 v18 v24 v31 v47, h⟩ κn κx = kcR κn (kcO 0 κn κx) (lp (kNam_3 mx) ⟨kNam_T v0 v2 v3 v4 v5 v6 v7 v12 v18 v24 v31 v47, h⟩) := by kernel_rfl
theorem kNam_2_eq : kc (CL mx) run lp (kNam_2 mx) ⟨kNam_T v0 v2 v3 v4 v5 v6 v7 v12 v18 v24 v31 v47, h⟩ κn κx = loadG 2 v5 h (fun a0 h => storeG 2 v2 a0 h (fun a1 h => κx .ret ⟨kNam_T v0 v2 (.int 9223372036854775807 0) (.bool false) v5 v6 v7 v12 v18 v24 v31 v47, h⟩)) := by kernel_rfl
theorem kNam_3_eq : kc (CL mx) run lp (kNam_3 mx) ⟨kNam_T v0 v2 v3 v4 v5 v6 v7 v12 v18 v24 v31 v47, h⟩ κn κx = lenS v0 h (fun a0 h => cmp ilt v6 a0 h (fun a1 h => kcIf a1 (idxS 1 v0 v6 h (fun a2 h => load1 a2 h (fun a3 h => cvI 9223372036854775807 a3 h (fun a4 h => cmp ibeq a4 (.int 9223372036854775807 0) h (fun a5 h => kcIf a5 (loadG 2 v5 h (fun a6 h => arith iadd v6 (.int 9223372036854775807 1) h (fun a7 h => storeG 2 v2 a6 h (fun a8 h => κx .ret ⟨kNam_T v0 v2 a7 (.bool true) v5 v6 a4 a1 a5 v24 v31 v47, h⟩)))) (cmp ige a4 (.int 9223372036854775807 192) h (fun a6 h => kcIf a6 (arith iadd v6 (.int 9223372036854775807 2) h (fun a7 h => lenS v0 h (fun a8 h => cmp igt a7 a8 h (fun a9 h => kcIf a9 (loadG 2 v5 h (fun a10 h => storeG 2 v2 a10 h (fun a11 h => κx .ret ⟨kNam_T v0 v2 (.int 9223372036854775807 0) (.bool false) v5 v6 a4 a1 a5 a6 a9 v47, h⟩))) (arith isub a4 (.int 9223372036854775807 192) h (fun a10 h => arith imul a10 (.int 9223372036854775807 256) h (fun a11 h => arith iadd v6 (.int 9223372036854775807 1) h (fun a12 h => idxS 1 v0 a12 h (fun a13 h => load1 a13 h (fun a14 h => cvI 9223372036854775807 a14 h (fun a15 h => arith iadd a11 a15 h (fun a16 h => moveP 1 v5 h (fun a17 h => store1 a17 a16 h (fun a18 h => loadG 2 v5 h (fun a19 h => arith iadd v6 (.int 9223372036854775807 2) h (fun a20 h => storeG 2 v2 a19 h (fun a21 h => κx .ret ⟨kNam_T v0 v2 a20 (.bool true) v5 v6 a4 a1 a5 a6 a9 v47, h⟩))))))))))))))))) (cmp igt a4 (.int 9223372036854775807 63) h (fun a7 h => guardC a7 false (fun κ => moveA v6 h κ) h (fun a8 h => guardC a7 false (fun κ => arith iadd a8 (.int 9223372036854775807 1) h κ) h (fun a9 h => guardC a7 false (fun κ => moveA a4 h κ) h (fun a10 h => guardC a7 false (fun κ => arith iadd a9 a10 h κ) h (fun a11 h => guardC a7 false (fun κ => moveA v0 h κ) h (fun a12 h => guardC a7 false (fun κ => lenS a12 h κ) h (fun a13 h => guardC a7 false (fun κ => cmp igt a11 a13 h κ) h (fun a14 h => pickA a7 (.bool true) a14 h (fun a15 h => kcIf a15 (loadG 2 v5 h (fun a16 h => storeG 2 v2 a16 h (fun a17 h => κx .ret ⟨kNam_T v0 v2 (.int 9223372036854775807 0) (.bool false) v5 v6 a4 a1 a5 a6 v31 a15, h⟩))) (kc (CL mx) run lp (kNam_4 mx) ⟨kNam_T v0 v2 v3 v4 v5 v6 a4 a1 a5 a6 v31 a15, h⟩ (fun s => kc (CL mx) run lp (kNam_5 mx) s κn (kcO 1 κn κx)) (kcO 1 κn κx))))))))))))))))))) (κx (.exit 0) ⟨kNam_T v0 v2 v3 v4 v5 v6 v7 a1 v18 v24 v31 v47, h⟩))) := by kernel_rfl
theorem kNam_4_eq : kc (CL mx) run lp (kNam_4 mx) ⟨kNam_T v0 v2 v3 v4 v5 v6 v7 v12 v18 v24 v31 v47, h⟩ κn κx = moveP 0 v5 h (fun a0 h => load1 a0 h (fun a1 h => arith iadd v6 (.int 9223372036854775807 1) h (fun a2 h => arith iadd v6 (.int 9223372036854775807 1) h (fun a3 h => arith iadd a3 v7 h (fun a4 h => slS 1 v0 (some a2) (some a4) none h (fun a5 h => bytesStr a5 h (fun a6 h => bldS 1 1 [.str []] [(0, a6)] h (fun a7 h => appA 10 1 16 a1 a7 h (fun a8 h1 => bq (Nat.ble (flen h) (flen h1)) ((fun h => moveP 0 v5 h (fun a9 h => store1 a9 a8 h (fun a10 h1 => bq (Nat.ble (flen h) (flen h1)) ((fun h => κn ⟨kNam_T v0 v2 v3 v4 v5 v6 v7 v12 v18 v24 v31 v47, h⟩) h1) none))) h1) none))))))))) := (plain_kc (C := CL mx) (ops := opsOf (cAt [1, 1, 1, 0, 0, 0, 1, 0, 1, 1, 0] (codeOf (CL mx) 10))) (ps := [0, 2, 3, 4, 5, 6, 7, 12, 18, 24, 31, 47]) (by kernel_rfl) (by kernel_rfl) _ _ _).trans (by kernel_rfl)
theorem kNam_5_eq : kc (CL mx) run lp (kNam_5 mx) ⟨kNam_T v0 v2 v3 v4 v5 v6 v7 v12 v18 v24 v31 v47, h⟩ κn κx = arith iadd (.int 9223372036854775807 1) v7 h (fun a0 h => arith iadd v6 a0 h (fun a1 h => κn ⟨kNam_T v0 v2 v3 v4 v5 a1 v7 v12 v18 v24 v31 v47, h⟩)) := by kernel_rfl
theorem kNam_end : kcE (CL mx) [.cell 2 32, .tmp 3, .tmp 4] ⟨kNam_T v0 v2 v3 v4 v5 v6 v7 v12 v18 v24 v31 v47, h⟩ = loadG 2 v2 h (fun r0 _ => some (.vh (.tup [r0, v3, v4]) h)) := (kcE_eq _ _ _).trans (by kernel_rfl)
theorem kNam_fk : fkAt (CL mx) 10 = some ⟨kNam_0 mx, [0, 2, 3, 4, 5, 6, 7, 12, 18, 24, 31, 47], 79, [.cell 2 32, .tmp 3, .tmp 4]⟩ := by kernel_rfl
end
theorem kNam_run (mx : Int) (run : Run) (lp : Lp) (x0 : AV) (h : AH) : runF (CL mx) run lp 10 [x0] h = vhO (kc (CL mx) run lp (kNam_0 mx) ⟨kNam_T x0 .bot .bot .bot .bot .bot .bot .bot .bot .bot .bot .bot, h⟩ (kcE (CL mx) [.cell 2 32, .tmp 3, .tmp 4]) (kcQ (CL mx) [.cell 2 32, .tmp 3, .tmp 4])) := (run_kc (by kernel_rfl) (kNam_fk mx) (by kernel_rfl)).trans (by kernel_rfl)
theorem kNam_nat (mx : Int) (p : List Nat) : NatK (CL mx) (kAt p (kOf (CL mx) 10)) := kAt_nat p (kOf_nat (CL mx) 10)
def kNam_s := And.intro @kNam_0_eq (And.intro @kNam_1_eq (And.intro @kNam_2_eq (And.intro @kNam_3_eq (And.intro @kNam_4_eq (And.intro @kNam_5_eq (@kNam_end))))))
/- slices.Equal[[]string,string] -/
def kEqu_T (v0 v1 v4 v5 v10 v12 v13 v14 v24 : AV) : Tm := (.nd 10 (.nd 4 (.nd 1 (.lf 0 v0) (.lf 1 v1)) (.nd 5 (.lf 4 v4) (.lf 5 v5))) (.nd 13 (.nd 12 (.lf 10 v10) (.lf 12 v12)) (.nd 14 (.lf 13 v13) (.nd 24 (.lf 14 v14) (.lf 24 v24)))))
def kEqu_0 (mx : Int) : K := kAt [] (kOf (CL mx) 9)
def kEqu_1 (mx : Int) : K := kAt [1, 1, 0] (kOf (CL mx) 9)
def kEqu_2 (mx : Int) : K := kAt [1, 1, 1] (kOf (CL mx) 9)
def kEqu_3 (mx : Int) : K := kAt [1, 1, 0, 1, 0, 0] (kOf (CL mx) 9)
def kEqu_4 (mx : Int) : K := kAt [1, 1, 0, 1, 0, 0, 1, 1, 0] (kOf (CL mx) 9)
def kEqu_5 (mx : Int) : K := kAt [1, 1, 0, 1, 0, 0, 1, 1, 1] (kOf (CL mx) 9)
def kEqu_6 (mx : Int) : K := kAt [1, 1, 0, 1, 0, 0, 1, 1, 0, 0, 1, 0] (kOf (CL mx) 9)
def kEqu_7 (mx : Int) : K := kAt [1, 1, 0, 1, 0, 0, 1, 1, 0, 0, 1, 1] (kOf (CL mx) 9)
section
set_option maxRecDepth 100000
variable (mx : Int) (run : Run) (lp : Lp) (κn : Kt) (κx : Ex → Kt) (h : AH) (v0 v1 v4 v5 v10 v12 v13 v14 v24 : AV)
theorem kEqu_0_eq : kc (CL mx) run lp (kEqu_0 mx) ⟨kEqu_T v0 v1 v4 v5 v10 v12 v13 v14 v24, h⟩ κn κx = lenS v0 h (fun a0 h => lenS v1 h (fun a1 h => cmp ine a0 a1 h (fun a2 h => kcIf a2 (κx .ret ⟨kEqu_T v0 v1 (.bool false) v5 a2 v12 v13 v14 v24, h⟩) (kc (CL mx) run lp (kEqu_1 mx) ⟨kEqu_T v0 v1 (.bool false) v5 a2 v12 v13 v14 v24, h⟩ (fun s => kc (CL mx) run lp (kEqu_2 mx) s κn κx) κx)))) := by kernel_rfl
theorem kEqu_1_eq : kc (CL mx) run lp (kEqu_1 mx) ⟨kEqu_T v0 v1 v4 v5 v10 v12 v13 v14 v24, h⟩ κn κx = lenS v0 h (fun a0 h => kcR κn (kcO 0 κn κx) (lp (kEqu_3 mx) ⟨kEqu_T v0 v1 v4 v5 v10 a0 (.int 9223372036854775807 0) v14 v24, h⟩)) := by kernel_rfl
theorem kEqu_2_eq : kc (CL mx) run lp (kEqu_2 mx) ⟨kEqu_T v0 v1 v4 v5 v10 v12 v13 v14 v24, h⟩ κn κx = κx .ret ⟨kEqu_T v0 v1 (.bool true) v5 v10 v12 v13 v14 v24, h⟩ := by kernel_rfl
theorem kEqu_3_eq : kc (CL mx) run lp (kEqu_3 mx) ⟨kEqu_T v0 v1 v4 v5 v10 v12 v13 v14 v24, h⟩ κn κx = cmp ilt v13 v12 h (fun a0 h => kcIf a0 (kc (CL mx) run lp (kEqu_4 mx) ⟨kEqu_T v0 v1 v4 v5 v10 v12 v13 a0 v24, h⟩ (fun s => kc (CL mx) run lp (kEqu_5 mx) s κn κx) κx) (κx (.exit 0) ⟨kEqu_T v0 v1 v4 v5 v10 v12 v13 a0 v24, h⟩)) := by kernel_rfl
theorem kEqu_4_eq : kc (CL mx) run lp (kEqu_4 mx) ⟨kEqu_T v0 v1 v4 v5 v10 v12 v13 v14 v24, h⟩ κn κx = kc (CL mx) run lp (kEqu_6 mx) ⟨kEqu_T v0 v1 v4 v13 v10 v12 v13 v14 v24, h⟩ (fun s => kc (CL mx) run lp (kEqu_7 mx) s κn (kcO 1 κn κx)) (kcO 1 κn κx) := by kernel_rfl
theorem kEqu_5_eq : kc (CL mx) run lp (kEqu_5 mx) ⟨kEqu_T v0 v1 v4 v5 v10 v12 v13 v14 v24, h⟩ κn κx = arith iadd v13 (.int 9223372036854775807 1) h (fun a0 h => κn ⟨kEqu_T v0 v1 v4 v5 v10 v12 a0 v14 v24, h⟩) := by kernel_rfl
theorem kEqu_6_eq : kc (CL mx) run lp (kEqu_6 mx) ⟨kEqu_T v0 v1 v4 v5 v10 v12 v13 v14 v24, h⟩ κn κx = idxS 1 v0 v5 h (fun a0 h => load1 a0 h (fun a1 h => idxS 1 v1 v5 h (fun a2 h => load1 a2 h (fun a3 h => strCmp neS a1 a3 h (fun a4 h => κn ⟨kEqu_T v0 v1 v4 v5 v10 v12 v13 v14 a4, h⟩))))) := (plain_kc (C := CL mx) (ops := opsOf (cAt [1, 1, 0, 1, 0, 0, 1, 1, 0, 0, 1, 0] (codeOf (CL mx) 9))) (ps := [0, 1, 4, 5, 10, 12, 13, 14, 24]) (by kernel_rfl) (by kernel_rfl) _ _ _).trans (by kernel_rfl)
theorem kEqu_7_eq : kc (CL mx) run lp (kEqu_7 mx) ⟨kEqu_T v0 v1 v4 v5 v10 v12 v13 v14 v24, h⟩ κn κx = kcIf v24 (κx .ret ⟨kEqu_T v0 v1 (.bool false) v5 v10 v12 v13 v14 v24, h⟩) (κn ⟨kEqu_T v0 v1 v4 v5 v10 v12 v13 v14 v24, h⟩) := by kernel_rfl
theorem kEqu_end : kcE (CL mx) [.tmp 4] ⟨kEqu_T v0 v1 v4 v5 v10 v12 v13 v14 v24, h⟩ = some (.vh v4 h) := (kcE_eq _ _ _).trans (by kernel_rfl)
theorem kEqu_fk : fkAt (CL mx) 9 = some ⟨kEqu_0 mx, [0, 1, 4, 5, 10, 12, 13, 14, 24], 26, [.tmp 4]⟩ := by kernel_rfl
end
theorem kEqu_run (mx : Int) (run : Run) (lp : Lp) (x0 x1 : AV) (h : AH) : runF (CL mx) run lp 9 [x0, x1] h = vhO (kc (CL mx) run lp (kEqu_0 mx) ⟨kEqu_T x0 x1 .bot .bot .bot .bot .bot .bot .bot, h⟩ (kcE (CL mx) [.tmp 4]) (kcQ (CL mx) [.tmp 4])) := (run_kc (by kernel_rfl) (kEqu_fk mx) (by kernel_rfl)).trans (by kernel_rfl)
theorem kEqu_nat (mx : Int) (p : List Nat) : NatK (CL mx) (kAt p (kOf (CL mx) 9)) := kAt_nat p (kOf_nat (CL mx) 9)
def kEqu_s := And.intro @kEqu_0_eq (And.intro @kEqu_1_eq (And.intro @kEqu_2_eq (And.intro @kEqu_3_eq (And.intro @kEqu_4_eq (And.intro @kEqu_5_eq (And.intro @kEqu_6_eq (And.intro @kEqu_7_eq (@kEqu_end))))))))
end
theorem cl_ok {mx : Int} : CxOk Tryz.prog (CL mx) := (CxOk.told c1_ok (show MemosOk Tryz.prog (C1 mx) (.lf 6 [([], .bool true)]) from fun p hp => by
  obtain rfl : p = ([], .bool true) := by simpa using hp
  exact as_head c1_ok)).ownd _
/-- The labels of a name with its pointers followed, and what is wrong (0: nothing). -/
def fol (b : List Nat) : Nat → Nat → Nat → Nat → List (List Nat) × Nat
  | 0, _, _, _ => ([], 10)
  | k + 1, a, j, s => match b[a]? with
    | none => ([], 10)
    | some n => if n = 0 then ([], 0) else if n < 64 then (if b.length ≤ a + n then ([], 10) else if 255 < s + n + 1 then ([], 2) else
        (if (fol b k (a + n + 1) j (s + n + 1)).2 = 0 then ((b.drop (a + 1)).take n :: (fol b k (a + n + 1) j (s + n + 1)).1, 0) else ([], (fol b k (a + n + 1) j (s + n + 1)).2)))
      else if n < 192 then ([], 212) else if b.length ≤ a + 1 then ([], 10) else if j = 64 then ([], 6) else fol b k ((n - 192) * 256 + b.getD (a + 1) 0) (j + 1) s
/-- Behind which byte a name ends there. -/
def endp (b : List Nat) : Nat → Nat → Nat
  | 0, a => a
  | k + 1, a => match b[a]? with
    | none => a
    | some n => if n = 0 then a + 1 else if n < 64 then endp b k (a + n + 1) else a + 2
theorem fol_bad (b : List Nat) : ∀ (k a j s : Nat), (fol b k a j s).2 ≠ 0 → (fol b k a j s).1 = []
  | 0, a, j, s, _ => rfl
  | k + 1, a, j, s, h => by
    unfold fol at h ⊢
    split
    · rfl
    · rename_i n e
      rw [e] at h
      simp only at h ⊢
      split
      · rfl
      · split
        · split
          · rfl
          · split
            · rfl
            · split
              · rename_i h1 h2 h3 h4 h5
                rw [if_neg h1, if_pos h2, if_neg h3, if_neg h4, if_pos h5] at h
                exact absurd rfl h
              · rfl
        · split
          · rfl
          · split
            · rfl
            · split
              · rfl
              · rename_i h1 h2 h3 h4 h5
                rw [if_neg h1, if_neg h2, if_neg h3, if_neg h4, if_neg h5] at h
                exact fol_bad b k _ _ _ h
theorem fol_len (b : List Nat) : ∀ (k a j s : Nat), (fol b k a j s).1.length ≤ k
  | 0, a, j, s => by simp [fol]
  | k + 1, a, j, s => by
    unfold fol
    split
    · simp
    · rename_i n _
      have h1 := fun a j s => fol_len b k a j s
      split
      · simp
      · split
        · split
          · simp
          · split
            · simp
            · split
              · have := h1 (a + n + 1) j (s + n + 1)
                simp only [List.length_cons]; exact Nat.succ_le_succ this
              · simp
        · split
          · simp
          · split
            · simp
            · split
              · simp
              · exact Nat.le_succ_of_le (h1 _ _ _)
section
variable {mx : Int} {Q : Option Rs → Prop} {κn : Kt} {κx : Ex → Kt} {b : List Nat} {v0 : AV}
theorem equ_loop {v0 v1 v4 v10 : AV} {L M : List (List Nat)} {h : AH} (h0 : SlAt h v0 (strsA L)) (h1 : SlAt h v1 (strsA M)) (hl : L.length = M.length) (hb : L.length ≤ 1000000) : ∀ (k i f : Nat) (v5 v14 v24 : AV), i + k = L.length → k + 2 ≤ f → (∀ j, j < i → L[j]? = M[j]?) →
    (L = M → ∀ v5 v14 v24, Q (κx (.exit 0) ⟨kEqu_T v0 v1 v4 v5 v10 (.int 9223372036854775807 (L.length : Int)) (.int 9223372036854775807 (L.length : Int)) v14 v24, h⟩)) →
    (L ≠ M → ∀ v5 v13 v14 v24, Q (κx .ret ⟨kEqu_T v0 v1 (.bool false) v5 v10 (.int 9223372036854775807 (L.length : Int)) v13 v14 v24, h⟩)) →
    Q (kcR κn κx ((rl (CL mx) f).lp (kEqu_3 mx) ⟨kEqu_T v0 v1 v4 v5 v10 (.int 9223372036854775807 (L.length : Int)) (.int 9223372036854775807 (i : Int)) v14 v24, h⟩)) := by
  intro k
  induction k with
  | zero =>
    intro i f v5 v14 v24 hi hf he hk hr
    obtain ⟨f, rfl⟩ := fuel hf
    obtain rfl : i = L.length := by omega
    refine wLoop (kEqu_nat mx _) ?_
    simp only [sy, List.length_append, Nat.reduceAdd, Nat.reduceMul, Nat.reduceSub, Nat.reduceLeDiff, Nat.reduceEqDiff, Nat.reduceLT, reduceIte, kEqu_s, Int.lt_irrefl]
    refine hk (List.ext_getElem? fun j => ?_) _ _ _
    by_cases hj : j < L.length
    · exact he j hj
    · rw [List.getElem?_eq_none (by omega), List.getElem?_eq_none (by omega)]
  | succ k ih =>
    intro i f v5 v14 v24 hi hf he hk hr
    obtain ⟨f, rfl⟩ := fuel hf
    have hlt : i < L.length := by omega
    obtain ⟨x, ex⟩ : ∃ x, L[i]? = some x := ⟨_, List.getElem?_eq_getElem hlt⟩
    obtain ⟨y, ey⟩ : ∃ y, M[i]? = some y := ⟨_, List.getElem?_eq_getElem (by omega)⟩
    obtain ⟨p, _, p2, p3⟩ := h0.idx (strsA_get ex)
    obtain ⟨q, _, q2, q3⟩ := h1.idx (strsA_get ey)
    have e1 : decide ((i : Int) < (L.length : Int)) = true := by rw [decide_eq_true_iff]; omega
    have e4 : wrapA 9223372036854775807 ((i : Int) + 1) = ((i + 1 : Nat) : Int) := by rw [wrapA_i64 (by omega) (by omega)]; simp
    refine wLoop (kEqu_nat mx _) ?_
    by_cases hxy : x = y
    · subst hxy
      have e2 : neS x x = false := by unfold neS; rw [eqS_refl]; rfl
      simp only [sy, List.length_append, Nat.reduceAdd, Nat.reduceMul, Nat.reduceSub, Nat.reduceLeDiff, Nat.reduceEqDiff, Nat.reduceLT, reduceIte, kEqu_s, e1, p2, p3, q2, q3, e2, e4]
      refine ih (i + 1) (f + k + 2) _ _ _ (by omega) (by omega) (fun j hj => ?_) hk hr
      by_cases hj' : j = i
      · rw [hj', ex, ey]
      · exact he j (by omega)
    · have e2 : neS x y = true := by
        unfold neS
        have : eqS x y = false := by rw [Bool.eq_false_iff]; exact fun c => hxy (eqS_nat _ _ c)
        rw [this]; rfl
      simp only [sy, List.length_append, Nat.reduceAdd, Nat.reduceMul, Nat.reduceSub, Nat.reduceLeDiff, Nat.reduceEqDiff, Nat.reduceLT, reduceIte, kEqu_s, e1, p2, p3, q2, q3, e2]
      exact hr (fun c => hxy (by rw [c, ey] at ex; exact (Option.some.inj ex).symm)) _ _ _ _
theorem equ_gives {v0 v1 : AV} {L M : List (List Nat)} {h : AH} (h0 : SlAt h v0 (strsA L)) (h1 : SlAt h v1 (strsA M)) (hb : L.length ≤ 1000000) (f : Nat) (hf : L.length + 3 ≤ f) :
    Gives (fun r h' => r = .bool (decide (L = M)) ∧ h' = h) ((rl (CL mx) f).run 9 [v0, v1] h) := by
  obtain ⟨f, rfl⟩ := fuel hf
  refine Gives.runs (n := f + L.length + 2) (kEqu_run mx _ _ _ _ _) ?_
  have l0 := fun κ => h0.lenS h κ
  have l1 := fun κ => h1.lenS h κ
  rw [strsA_len] at l0 l1
  by_cases hl : (L.length : Int) = (M.length : Int)
  · simp only [sy, List.length_append, Nat.reduceAdd, Nat.reduceMul, Nat.reduceSub, Nat.reduceLeDiff, Nat.reduceEqDiff, Nat.reduceLT, reduceIte, kEqu_s, l0, l1, hl, ne_eq, not_true_eq_false]
    have hl : L.length = M.length := by omega
    rw [← hl]
    refine equ_loop h0 h1 hl hb L.length 0 _ _ _ _ (by omega) (by omega) (fun j hj => by omega) (fun e v5 v14 v24 => ?_) (fun e v5 v13 v14 v24 => ?_)
    · simp only [sy, List.length_append, Nat.reduceAdd, Nat.reduceMul, Nat.reduceSub, Nat.reduceLeDiff, Nat.reduceEqDiff, Nat.reduceLT, reduceIte, kEqu_s]
      exact Ends.mk ⟨by rw [decide_eq_true e], rfl⟩
    · simp only [sy, List.length_append, Nat.reduceAdd, Nat.reduceMul, Nat.reduceSub, Nat.reduceLeDiff, Nat.reduceEqDiff, Nat.reduceLT, reduceIte, kEqu_s]
      exact Ends.mk ⟨by rw [decide_eq_false e], rfl⟩
  · simp only [sy, List.length_append, Nat.reduceAdd, Nat.reduceMul, Nat.reduceSub, Nat.reduceLeDiff, Nat.reduceEqDiff, Nat.reduceLT, reduceIte, kEqu_s, l0, l1, ne_eq, hl, not_false_eq_true]
    exact Ends.mk ⟨by rw [decide_eq_false]; intro c; rw [c] at hl; exact hl rfl, rfl⟩
theorem fol_gives (hp : PureS v0 (bytesA b)) (hb : b.length ≤ 400) (hc : ∀ x ∈ b, x < 256) : ∀ (k f a j s : Nat) (h : AH), k + 1 ≤ f → (64 - j) + (255 - s) < k → j ≤ 64 → s ≤ 255 → a ≤ 20000 → k ≤ 1000 →
    Gives (fun r h' => ∃ v, r = .tup [v, .int 9223372036854775807 ((fol b k a j s).2 : Int)] ∧ SlAt h' v (strsA (fol b k a j s).1) ∧ Fr h.length h h') ((rl (CL mx) f).run 8 [v0, .int 9223372036854775807 (a : Int), .int 9223372036854775807 (j : Int), .int 9223372036854775807 (s : Int)] h) := by
  intro k
  induction k with
  | zero => intro f a j s h _ hm; omega
  | succ k ih =>
    intro f a j s h hf hm hj hs ha hk
    obtain ⟨f, rfl⟩ := fuel hf
    refine Gives.runs (n := f + k + 1) (kFol_run mx _ _ _ _ _ _ _) ?_
    have hL := hp.len
    rw [bytesA_len] at hL
    have nilE : ∀ h : AH, SlAt h .nils (strsA []) := fun h => .inl ⟨rfl, .inl rfl⟩
    cases e : b[a]? with
    | none =>
      have hle : b.length ≤ a := List.getElem?_eq_none_iff.1 e
      have hF : fol b (k + 1) a j s = ([], 10) := by unfold fol; rw [e]
      have e1 : decide ((b.length : Int) ≤ (a : Int)) = true := by rw [decide_eq_true_iff]; omega
      simp only [sy, List.length_append, Nat.reduceAdd, Nat.reduceMul, Nat.reduceSub, Nat.reduceLeDiff, Nat.reduceEqDiff, Nat.reduceLT, reduceIte, kFol_s, hL, e1]
      exact Ends.mk ⟨_, by rw [hF]; rfl, by rw [hF]; exact nilE _, Fr.refl _ _⟩
    | some n =>
      have hlt : a < b.length := (List.getElem?_eq_some_iff.1 e).1
      have hn : n < 256 := hc n (List.mem_of_getElem? e)
      obtain ⟨q, _, q2, q3⟩ := (hp.at h).idx (bytesA_get e)
      have e1 : decide ((b.length : Int) ≤ (a : Int)) = false := by rw [decide_eq_false_iff_not]; omega
      have wn : wrapA 9223372036854775807 (n : Int) = (n : Int) := wrapA_nat (by omega)
      by_cases h0 : n = 0
      · have hF : fol b (k + 1) a j s = ([], 0) := by unfold fol; rw [e]; simp only [if_pos h0]
        have e2 : decide ((n : Int) = 0) = true := by rw [decide_eq_true_iff]; omega
        simp only [sy, List.length_append, Nat.reduceAdd, Nat.reduceMul, Nat.reduceSub, Nat.reduceLeDiff, Nat.reduceEqDiff, Nat.reduceLT, reduceIte, kFol_s, hL, e1, q2, q3, wn, e2]
        exact Ends.mk ⟨_, by rw [hF]; rfl, by rw [hF]; exact nilE _, Fr.refl _ _⟩
      have e2 : decide ((n : Int) = 0) = false := by rw [decide_eq_false_iff_not]; omega
      by_cases h64 : n < 64
      · have e3 : decide ((n : Int) < 64) = true := by rw [decide_eq_true_iff]; omega
        have w1 : wrapA 9223372036854775807 ((a : Int) + (n : Int)) = ((a + n : Nat) : Int) := by rw [wrapA_i64 (by omega) (by omega)]; simp
        by_cases hl2 : b.length ≤ a + n
        · have hF : fol b (k + 1) a j s = ([], 10) := by unfold fol; rw [e]; simp only [if_neg h0, if_pos h64, if_pos hl2]
          have e4 : decide ((b.length : Int) ≤ ((a + n : Nat) : Int)) = true := by rw [decide_eq_true_iff]; omega
          simp only [sy, List.length_append, Nat.reduceAdd, Nat.reduceMul, Nat.reduceSub, Nat.reduceLeDiff, Nat.reduceEqDiff, Nat.reduceLT, reduceIte, kFol_s, hL, e1, q2, q3, wn, e2, e3, w1, e4]
          exact Ends.mk ⟨_, by rw [hF]; rfl, by rw [hF]; exact nilE _, Fr.refl _ _⟩
        have e4 : decide ((b.length : Int) ≤ ((a + n : Nat) : Int)) = false := by rw [decide_eq_false_iff_not]; omega
        have w2 : wrapA 9223372036854775807 ((s : Int) + (n : Int)) = ((s + n : Nat) : Int) := by rw [wrapA_i64 (by omega) (by omega)]; simp
        have w3 : wrapA 9223372036854775807 (((s + n : Nat) : Int) + 1) = ((s + n + 1 : Nat) : Int) := by rw [wrapA_i64 (by omega) (by omega)]; simp
        by_cases h255 : 255 < s + n + 1
        · have hF : fol b (k + 1) a j s = ([], 2) := by unfold fol; rw [e]; simp only [if_neg h0, if_pos h64, if_neg hl2, if_pos h255]
          have e5 : decide ((255 : Int) < ((s + n + 1 : Nat) : Int)) = true := by rw [decide_eq_true_iff]; omega
          simp only [sy, List.length_append, Nat.reduceAdd, Nat.reduceMul, Nat.reduceSub, Nat.reduceLeDiff, Nat.reduceEqDiff, Nat.reduceLT, reduceIte, kFol_s, hL, e1, q2, q3, wn, e2, e3, w1, e4, w2, w3, e5]
          exact Ends.mk ⟨_, by rw [hF]; rfl, by rw [hF]; exact nilE _, Fr.refl _ _⟩
        have e5 : decide ((255 : Int) < ((s + n + 1 : Nat) : Int)) = false := by rw [decide_eq_false_iff_not]; omega
        have w4 : wrapA 9223372036854775807 (((a + n : Nat) : Int) + 1) = ((a + n + 1 : Nat) : Int) := by rw [wrapA_i64 (by omega) (by omega)]; simp
        simp only [sy, List.length_append, Nat.reduceAdd, Nat.reduceMul, Nat.reduceSub, Nat.reduceLeDiff, Nat.reduceEqDiff, Nat.reduceLT, reduceIte, kFol_s, hL, e1, q2, q3, wn, e2, e3, w1, e4, w2, w3, e5, w4]
        refine wCall (ih (f + k + 1) (a + n + 1) j (s + n + 1) h (by omega) (by omega) hj (by omega) (by omega) (by omega)).call ?_
        rintro r h' ⟨v, rfl, hv, hfr⟩
        generalize hR : fol b k (a + n + 1) j (s + n + 1) = R at hv
        by_cases hok : R.2 = 0
        · have hF : fol b (k + 1) a j s = ((b.drop (a + 1)).take n :: R.1, 0) := by unfold fol; rw [e]; simp only [if_neg h0, if_pos h64, if_neg hl2, if_neg h255, hR, if_pos hok]
          have e6 : decide ((R.2 : Int) ≠ 0) = false := by rw [decide_eq_false_iff_not]; omega
          have w5 : wrapA 9223372036854775807 ((a : Int) + 1) = ((a + 1 : Nat) : Int) := by rw [wrapA_i64 (by omega) (by omega)]; simp
          have w6 : wrapA 9223372036854775807 (((a + 1 : Nat) : Int) + (n : Int)) = ((a + 1 + n : Nat) : Int) := by rw [wrapA_i64 (by omega) (by omega)]; simp
          have hne : bytesA b ≠ [] := by
            intro c
            have := bytesA_len b
            rw [c] at this
            simp at this; omega
          have hcut := hp.cut hne (l := a + 1) (u := a + 1 + n) (by omega) (by rw [bytesA_len]; omega) 9223372036854775807 9223372036854775807
          have hst : ∀ (h : AH) (κ : Ka), bytesStr (.slp (((bytesA b).drop (a + 1)).take (a + 1 + n - (a + 1))) (a + 1 + n - (a + 1))) h κ = κ (.str ((b.drop (a + 1)).take n)) h := fun h κ => by
            have en : a + 1 + n - (a + 1) = n := by omega
            rw [en, bytesA_drop, bytesA_take]
            exact str_of ((PureS.mk _ (by rw [bytesA_len, List.length_take, List.length_drop]; omega)).at h) (fun x hx => hc x (List.mem_of_mem_drop (List.mem_of_mem_take hx))) κ
          have hRl : R.1.length ≤ k := by rw [← hR]; exact fol_len b k _ _ _
          simp only [sy, List.length_append, Nat.reduceAdd, Nat.reduceMul, Nat.reduceSub, Nat.reduceLeDiff, Nat.reduceEqDiff, Nat.reduceLT, reduceIte, kFol_s, e6, w5, w6, hcut, hst, bldS_str]
          refine wApp _ (by decide) (m := h'.length) (by simp) (SlFull.new (Nat.le_refl _) _ _ _) (hv.up (Fr.push (Nat.le_refl _) _)) (strsA_plains _) (by rw [strsA_len]; simp; omega) fun v' h2 hv' hf2 => ?_
          exact Ends.mk ⟨_, by rw [hF]; rfl, by rw [hF]; exact hv'.at, hfr.trans ⟨Nat.le_trans (by simp) hf2.1, fun i hi => by rw [hf2.2 i (Nat.lt_of_lt_of_le hi hfr.1), hget_old (Nat.lt_of_lt_of_le hi hfr.1)]⟩⟩
        · have hF : fol b (k + 1) a j s = ([], R.2) := by unfold fol; rw [e]; simp only [if_neg h0, if_pos h64, if_neg hl2, if_neg h255, hR, if_neg hok]
          have e6 : decide ((R.2 : Int) ≠ 0) = true := by rw [decide_eq_true_iff]; omega
          simp only [sy, List.length_append, Nat.reduceAdd, Nat.reduceMul, Nat.reduceSub, Nat.reduceLeDiff, Nat.reduceEqDiff, Nat.reduceLT, reduceIte, kFol_s, e6]
          exact Ends.mk ⟨_, by rw [hF], by rw [hF]; exact nilE _, hfr⟩
      have e3 : decide ((n : Int) < 64) = false := by rw [decide_eq_false_iff_not]; omega
      by_cases h192 : n < 192
      · have hF : fol b (k + 1) a j s = ([], 212) := by unfold fol; rw [e]; simp only [if_neg h0, if_neg h64, if_pos h192]
        have e4 : decide ((n : Int) < 192) = true := by rw [decide_eq_true_iff]; omega
        simp only [sy, List.length_append, Nat.reduceAdd, Nat.reduceMul, Nat.reduceSub, Nat.reduceLeDiff, Nat.reduceEqDiff, Nat.reduceLT, reduceIte, kFol_s, hL, e1, q2, q3, wn, e2, e3, e4]
        exact Ends.mk ⟨_, by rw [hF]; rfl, by rw [hF]; exact nilE _, Fr.refl _ _⟩
      have e4 : decide ((n : Int) < 192) = false := by rw [decide_eq_false_iff_not]; omega
      have w1 : wrapA 9223372036854775807 ((a : Int) + 1) = ((a + 1 : Nat) : Int) := by rw [wrapA_i64 (by omega) (by omega)]; simp
      by_cases hl2 : b.length ≤ a + 1
      · have hF : fol b (k + 1) a j s = ([], 10) := by unfold fol; rw [e]; simp only [if_neg h0, if_neg h64, if_neg h192, if_pos hl2]
        have e5 : decide ((b.length : Int) ≤ ((a + 1 : Nat) : Int)) = true := by rw [decide_eq_true_iff]; omega
        simp only [sy, List.length_append, Nat.reduceAdd, Nat.reduceMul, Nat.reduceSub, Nat.reduceLeDiff, Nat.reduceEqDiff, Nat.reduceLT, reduceIte, kFol_s, hL, e1, q2, q3, wn, e2, e3, e4, w1, e5]
        exact Ends.mk ⟨_, by rw [hF]; rfl, by rw [hF]; exact nilE _, Fr.refl _ _⟩
      have e5 : decide ((b.length : Int) ≤ ((a + 1 : Nat) : Int)) = false := by rw [decide_eq_false_iff_not]; omega
      by_cases hj64 : j = 64
      · have hF : fol b (k + 1) a j s = ([], 6) := by unfold fol; rw [e]; simp only [if_neg h0, if_neg h64, if_neg h192, if_neg hl2, if_pos hj64]
        have e6 : decide ((j : Int) = 64) = true := by rw [decide_eq_true_iff]; omega
        simp only [sy, List.length_append, Nat.reduceAdd, Nat.reduceMul, Nat.reduceSub, Nat.reduceLeDiff, Nat.reduceEqDiff, Nat.reduceLT, reduceIte, kFol_s, hL, e1, q2, q3, wn, e2, e3, e4, w1, e5, e6]
        exact Ends.mk ⟨_, by rw [hF]; rfl, by rw [hF]; exact nilE _, Fr.refl _ _⟩
      have e6 : decide ((j : Int) = 64) = false := by rw [decide_eq_false_iff_not]; omega
      obtain ⟨c, ec⟩ : ∃ c, b[a + 1]? = some c := ⟨_, List.getElem?_eq_getElem (by omega)⟩
      have hc2 : c < 256 := hc c (List.mem_of_getElem? ec)
      have hD : b.getD (a + 1) 0 = c := by rw [List.getD_eq_getElem?_getD, ec]; rfl
      have hF : fol b (k + 1) a j s = fol b k ((n - 192) * 256 + c) (j + 1) s := by
        rw [← hD]
        conv => lhs; unfold fol
        rw [e]; simp only [if_neg h0, if_neg h64, if_neg h192, if_neg hl2, if_neg hj64]
      obtain ⟨q', _, q2', q3'⟩ := (hp.at h).idx (bytesA_get ec)
      have wc : wrapA 9223372036854775807 (c : Int) = (c : Int) := wrapA_nat (by omega)
      have w2 : wrapA 9223372036854775807 ((n : Int) - 192) = ((n - 192 : Nat) : Int) := by rw [wrapA_i64 (by omega) (by omega)]; omega
      have w3 : wrapA 9223372036854775807 (((n - 192 : Nat) : Int) * 256) = (((n - 192) * 256 : Nat) : Int) := by rw [wrapA_i64 (by omega) (by omega)]; simp
      have w4 : wrapA 9223372036854775807 ((((n - 192) * 256 : Nat) : Int) + (c : Int)) = (((n - 192) * 256 + c : Nat) : Int) := by rw [wrapA_i64 (by omega) (by omega)]; simp
      have w5 : wrapA 9223372036854775807 ((j : Int) + 1) = ((j + 1 : Nat) : Int) := by rw [wrapA_i64 (by omega) (by omega)]; simp
      simp only [sy, List.length_append, Nat.reduceAdd, Nat.reduceMul, Nat.reduceSub, Nat.reduceLeDiff, Nat.reduceEqDiff, Nat.reduceLT, reduceIte, kFol_s, hL, e1, q2, q3, wn, e2, e3, e4, w1, e5, e6, q2', q3', wc, w2, w3, w4, w5]
      refine wCall (ih (f + k + 1) ((n - 192) * 256 + c) (j + 1) s h (by omega) (by omega) (by omega) hs (by omega) (by omega)).call ?_
      rintro r h' ⟨v, rfl, hv, hfr⟩
      simp only [sy, List.length_append, Nat.reduceAdd, Nat.reduceMul, Nat.reduceSub, Nat.reduceLeDiff, Nat.reduceEqDiff, Nat.reduceLT, reduceIte, kFol_s]
      exact Ends.mk ⟨v, by rw [hF], by rw [hF]; exact hv, hfr⟩
theorem endp_le (b : List Nat) : ∀ (k a : Nat), a ≤ endp b k a
  | 0, a => Nat.le_refl _
  | k + 1, a => by
    unfold endp
    split
    · exact Nat.le_refl _
    · rename_i n _
      have := endp_le b k (a + n + 1)
      split
      · omega
      · split <;> omega
/-- Resolve, from a byte on. -/
theorem res_loop (hp : PureS v0 (bytesA b)) (hb : b.length ≤ 400) (hc : ∀ x ∈ b, x < 256) {m : Nat} : ∀ (k f a j s : Nat) (E : Int) (O : List (List Nat)) (h : AH) (w v4 v5 v6 v11 v19 v23 v33 v37 v39 v52 v56 v61 v70 v76 v93 : AV), k + 1 ≤ f → (64 - j) + (255 - s) < k → j ≤ 64 → s ≤ 255 → a ≤ 20000 → -1 ≤ E → E ≤ 20000 → O.length + k ≤ 1000 →
    SlFull m h w (strsA O) → m ≤ h.length →
    ((fol b k a j s).2 ≠ 0 → ∀ h v7 v8 v9 v10 v11 v19 v23 v33 v37 v39 v52 v56 v61 v70 v76 v93 vv1, Q (κx .ret ⟨kRes_T v0 vv1 .nils (.int 9223372036854775807 0) (.int 9223372036854775807 ((fol b k a j s).2 : Int)) v7 v8 v9 v10 v11 v19 v23 v33 v37 v39 v52 v56 v61 v70 v76 v93, h⟩)) →
    ((fol b k a j s).2 = 0 → ∀ h w v7 v8 v9 v10 v11 v19 v23 v33 v37 v39 v52 v56 v61 v70 v76 v93 vv1, SlAt h w (strsA (O ++ (fol b k a j s).1)) → Q (κx .ret ⟨kRes_T v0 vv1 w (.int 9223372036854775807 (if E < 0 then ((endp b k a : Nat) : Int) else E)) (.int 9223372036854775807 0) v7 v8 v9 v10 v11 v19 v23 v33 v37 v39 v52 v56 v61 v70 v76 v93, h⟩)) →
    Q (kcR κn κx ((rl (CL mx) f).lp (kRes_1 mx) ⟨kRes_T v0 (.int 9223372036854775807 (a : Int)) v4 v5 v6 w (.int 9223372036854775807 E) (.int 9223372036854775807 (j : Int)) (.int 9223372036854775807 (s : Int)) v11 v19 v23 v33 v37 v39 v52 v56 v61 v70 v76 v93, h⟩)) := by
  intro k
  induction k with
  | zero => intro f a j s E O h w v4 v5 v6 v11 v19 v23 v33 v37 v39 v52 v56 v61 v70 v76 v93 _ hm; omega
  | succ k ih =>
    intro f a j s E O h w v4 v5 v6 v11 v19 v23 v33 v37 v39 v52 v56 v61 v70 v76 v93 hf hm hj hs ha hE1 hE2 hO hw hmh hbad hgood
    obtain ⟨f, rfl⟩ := fuel hf
    refine wLoop (kRes_nat mx _) ?_
    have hL := hp.len
    rw [bytesA_len] at hL
    cases e : b[a]? with
    | none =>
      have hle : b.length ≤ a := List.getElem?_eq_none_iff.1 e
      have hF : fol b (k + 1) a j s = ([], 10) := by unfold fol; rw [e]
      rw [hF] at hbad
      have e1 : decide ((b.length : Int) ≤ (a : Int)) = true := by rw [decide_eq_true_iff]; omega
      simp only [sy, List.length_append, Nat.reduceAdd, Nat.reduceMul, Nat.reduceSub, Nat.reduceLeDiff, Nat.reduceEqDiff, Nat.reduceLT, reduceIte, kRes_s, hL, e1]
      exact hbad (by simp) _ _ _ _ _ _ _ _ _ _ _ _ _ _ _ _ _ _
    | some n =>
      have hlt : a < b.length := (List.getElem?_eq_some_iff.1 e).1
      have hn : n < 256 := hc n (List.mem_of_getElem? e)
      obtain ⟨q, _, q2, q3⟩ := (hp.at h).idx (bytesA_get e)
      have e1 : decide ((b.length : Int) ≤ (a : Int)) = false := by rw [decide_eq_false_iff_not]; omega
      have wn : wrapA 9223372036854775807 (n : Int) = (n : Int) := wrapA_nat (by omega)
      by_cases h0 : n = 0
      · have hF : fol b (k + 1) a j s = ([], 0) := by unfold fol; rw [e]; simp only [if_pos h0]
        have hP : endp b (k + 1) a = a + 1 := by unfold endp; rw [e]; simp only [if_pos h0]
        rw [hF, hP] at hgood
        have e2 : decide ((n : Int) = 0) = true := by rw [decide_eq_true_iff]; omega
        have w1 : wrapA 9223372036854775807 ((a : Int) + 1) = ((a + 1 : Nat) : Int) := by rw [wrapA_i64 (by omega) (by omega)]; simp
        have hwO : SlAt h w (strsA (O ++ [])) := by rw [List.append_nil]; exact hw.at
        by_cases hE : E < 0
        · have e3 : decide (E < 0) = true := decide_eq_true hE
          rw [if_pos hE] at hgood
          simp only [sy, List.length_append, Nat.reduceAdd, Nat.reduceMul, Nat.reduceSub, Nat.reduceLeDiff, Nat.reduceEqDiff, Nat.reduceLT, reduceIte, kRes_s, hL, e1, q2, q3, wn, e2, e3, w1]
          exact hgood rfl _ _ _ _ _ _ _ _ _ _ _ _ _ _ _ _ _ _ _ hwO
        · have e3 : decide (E < 0) = false := decide_eq_false hE
          rw [if_neg hE] at hgood
          simp only [sy, List.length_append, Nat.reduceAdd, Nat.reduceMul, Nat.reduceSub, Nat.reduceLeDiff, Nat.reduceEqDiff, Nat.reduceLT, reduceIte, kRes_s, hL, e1, q2, q3, wn, e2, e3]
          exact hgood rfl _ _ _ _ _ _ _ _ _ _ _ _ _ _ _ _ _ _ _ hwO
      have e2 : decide ((n : Int) = 0) = false := by rw [decide_eq_false_iff_not]; omega
      by_cases h64 : n < 64
      · have e3 : decide ((n : Int) ≤ 63) = true := by rw [decide_eq_true_iff]; omega
        have w1 : wrapA 9223372036854775807 ((a : Int) + 1) = ((a + 1 : Nat) : Int) := by rw [wrapA_i64 (by omega) (by omega)]; simp
        have w2 : wrapA 9223372036854775807 (((a + 1 : Nat) : Int) + (n : Int)) = ((a + 1 + n : Nat) : Int) := by rw [wrapA_i64 (by omega) (by omega)]; simp
        by_cases hl2 : b.length ≤ a + n
        · have hF : fol b (k + 1) a j s = ([], 10) := by unfold fol; rw [e]; simp only [if_neg h0, if_pos h64, if_pos hl2]
          rw [hF] at hbad
          have e4 : decide ((b.length : Int) < ((a + 1 + n : Nat) : Int)) = true := by rw [decide_eq_true_iff]; omega
          simp only [sy, List.length_append, Nat.reduceAdd, Nat.reduceMul, Nat.reduceSub, Nat.reduceLeDiff, Nat.reduceEqDiff, Nat.reduceLT, reduceIte, kRes_s, hL, e1, q2, q3, wn, e2, e3, w1, w2, e4]
          exact hbad (by simp) _ _ _ _ _ _ _ _ _ _ _ _ _ _ _ _ _ _
        have e4 : decide ((b.length : Int) < ((a + 1 + n : Nat) : Int)) = false := by rw [decide_eq_false_iff_not]; omega
        have w3 : wrapA 9223372036854775807 ((n : Int) + 1) = ((n + 1 : Nat) : Int) := by rw [wrapA_i64 (by omega) (by omega)]; simp
        have w4 : wrapA 9223372036854775807 ((s : Int) + ((n + 1 : Nat) : Int)) = ((s + n + 1 : Nat) : Int) := by rw [wrapA_i64 (by omega) (by omega)]; push_cast; omega
        by_cases h255 : 255 < s + n + 1
        · have hF : fol b (k + 1) a j s = ([], 2) := by unfold fol; rw [e]; simp only [if_neg h0, if_pos h64, if_neg hl2, if_pos h255]
          rw [hF] at hbad
          have e5 : decide ((255 : Int) < ((s + n + 1 : Nat) : Int)) = true := by rw [decide_eq_true_iff]; omega
          simp only [sy, List.length_append, Nat.reduceAdd, Nat.reduceMul, Nat.reduceSub, Nat.reduceLeDiff, Nat.reduceEqDiff, Nat.reduceLT, reduceIte, kRes_s, hL, e1, q2, q3, wn, e2, e3, w1, w2, e4, w3, w4, e5]
          exact hbad (by simp) _ _ _ _ _ _ _ _ _ _ _ _ _ _ _ _ _ _
        have e5 : decide ((255 : Int) < ((s + n + 1 : Nat) : Int)) = false := by rw [decide_eq_false_iff_not]; omega
        have hne : bytesA b ≠ [] := by
          intro c
          have := bytesA_len b
          rw [c] at this
          simp at this; omega
        have hcut := hp.cut hne (l := a + 1) (u := a + 1 + n) (by omega) (by rw [bytesA_len]; omega) 9223372036854775807 9223372036854775807
        have hst : ∀ (h : AH) (κ : Ka), bytesStr (.slp (((bytesA b).drop (a + 1)).take (a + 1 + n - (a + 1))) (a + 1 + n - (a + 1))) h κ = κ (.str ((b.drop (a + 1)).take n)) h := fun h κ => by
          have en : a + 1 + n - (a + 1) = n := by omega
          rw [en, bytesA_drop, bytesA_take]
          exact str_of ((PureS.mk _ (by rw [bytesA_len, List.length_take, List.length_drop]; omega)).at h) (fun x hx => hc x (List.mem_of_mem_drop (List.mem_of_mem_take hx))) κ
        have w5 : wrapA 9223372036854775807 (1 + (n : Int)) = ((1 + n : Nat) : Int) := by rw [wrapA_i64 (by omega) (by omega)]; simp
        have w6 : wrapA 9223372036854775807 ((a : Int) + ((1 + n : Nat) : Int)) = ((a + n + 1 : Nat) : Int) := by rw [wrapA_i64 (by omega) (by omega)]; push_cast; omega
        simp only [sy, List.length_append, Nat.reduceAdd, Nat.reduceMul, Nat.reduceSub, Nat.reduceLeDiff, Nat.reduceEqDiff, Nat.reduceLT, reduceIte, kRes_s, hL, e1, q2, q3, wn, e2, e3, w1, w2, e4, w3, w4, e5, hcut, hst, bldS_str]
        refine wApp _ (by decide) (m := m) (by simp; omega) (hw.push _) ((SlFull.new (m := 0) (Nat.zero_le _) _ _ _).at) (strsA_plains [_]) (by rw [strsA_len]; simp; omega) fun w' h' hw' hfr => ?_
        have hfl := fol_len b k (a + n + 1) j (s + n + 1)
        have hRec : fol b (k + 1) a j s = (if (fol b k (a + n + 1) j (s + n + 1)).2 = 0 then ((b.drop (a + 1)).take n :: (fol b k (a + n + 1) j (s + n + 1)).1, 0) else ([], (fol b k (a + n + 1) j (s + n + 1)).2)) := by
          conv => lhs; unfold fol
          rw [e]; simp only [if_neg h0, if_pos h64, if_neg hl2, if_neg h255]
        have hP : endp b (k + 1) a = endp b k (a + n + 1) := by
          conv => lhs; unfold endp
          rw [e]; simp only [if_neg h0, if_pos h64]
        rw [hRec, hP] at hgood
        rw [hRec] at hbad
        simp only [w5, w6]
        refine ih (f + k + 1) (a + n + 1) j (s + n + 1) E (O ++ [(b.drop (a + 1)).take n]) h' w' _ _ _ _ _ _ _ _ _ _ _ _ _ _ _ (by omega) (by omega) hj (by omega) (by omega) hE1 hE2 (by simp; omega) (by rw [strsA_app]; exact hw') (Nat.le_trans (by simp; omega) hfr.1) (fun hz => ?_) (fun hz => ?_)
        · rw [if_neg hz] at hbad
          exact hbad hz
        · rw [if_pos hz] at hgood
          intro h w v7 v8 v9 v10 v11 v19 v23 v33 v37 v39 v52 v56 v61 v70 v76 v93 vv1 hsl
          refine hgood rfl _ _ _ _ _ _ _ _ _ _ _ _ _ _ _ _ _ _ _ ?_
          rw [List.append_assoc] at hsl
          exact hsl
      have e3 : decide ((n : Int) ≤ 63) = false := by rw [decide_eq_false_iff_not]; omega
      by_cases h192 : n < 192
      · have hF : fol b (k + 1) a j s = ([], 212) := by unfold fol; rw [e]; simp only [if_neg h0, if_neg h64, if_pos h192]
        rw [hF] at hbad
        have e4 : decide ((n : Int) < 192) = true := by rw [decide_eq_true_iff]; omega
        simp only [sy, List.length_append, Nat.reduceAdd, Nat.reduceMul, Nat.reduceSub, Nat.reduceLeDiff, Nat.reduceEqDiff, Nat.reduceLT, reduceIte, kRes_s, hL, e1, q2, q3, wn, e2, e3, e4]
        exact hbad (by simp) _ _ _ _ _ _ _ _ _ _ _ _ _ _ _ _ _ _
      have e4 : decide ((n : Int) < 192) = false := by rw [decide_eq_false_iff_not]; omega
      have w1 : wrapA 9223372036854775807 ((a : Int) + 2) = ((a + 2 : Nat) : Int) := by rw [wrapA_i64 (by omega) (by omega)]; simp
      by_cases hl2 : b.length ≤ a + 1
      · have hF : fol b (k + 1) a j s = ([], 10) := by unfold fol; rw [e]; simp only [if_neg h0, if_neg h64, if_neg h192, if_pos hl2]
        rw [hF] at hbad
        have e5 : decide ((b.length : Int) < ((a + 2 : Nat) : Int)) = true := by rw [decide_eq_true_iff]; omega
        simp only [sy, List.length_append, Nat.reduceAdd, Nat.reduceMul, Nat.reduceSub, Nat.reduceLeDiff, Nat.reduceEqDiff, Nat.reduceLT, reduceIte, kRes_s, hL, e1, q2, q3, wn, e2, e3, e4, w1, e5]
        exact hbad (by simp) _ _ _ _ _ _ _ _ _ _ _ _ _ _ _ _ _ _
      have e5 : decide ((b.length : Int) < ((a + 2 : Nat) : Int)) = false := by rw [decide_eq_false_iff_not]; omega
      have w2 : wrapA 9223372036854775807 ((j : Int) + 1) = ((j + 1 : Nat) : Int) := by rw [wrapA_i64 (by omega) (by omega)]; simp
      by_cases hj64 : j = 64
      · have hF : fol b (k + 1) a j s = ([], 6) := by unfold fol; rw [e]; simp only [if_neg h0, if_neg h64, if_neg h192, if_neg hl2, if_pos hj64]
        rw [hF] at hbad
        have e6 : decide ((64 : Int) < ((j + 1 : Nat) : Int)) = true := by rw [decide_eq_true_iff]; omega
        simp only [sy, List.length_append, Nat.reduceAdd, Nat.reduceMul, Nat.reduceSub, Nat.reduceLeDiff, Nat.reduceEqDiff, Nat.reduceLT, reduceIte, kRes_s, hL, e1, q2, q3, wn, e2, e3, e4, w1, e5, w2, e6]
        exact hbad (by simp) _ _ _ _ _ _ _ _ _ _ _ _ _ _ _ _ _ _
      have e6 : decide ((64 : Int) < ((j + 1 : Nat) : Int)) = false := by rw [decide_eq_false_iff_not]; omega
      obtain ⟨c, ec⟩ : ∃ c, b[a + 1]? = some c := ⟨_, List.getElem?_eq_getElem (by omega)⟩
      have hc2 : c < 256 := hc c (List.mem_of_getElem? ec)
      have hD : b.getD (a + 1) 0 = c := by rw [List.getD_eq_getElem?_getD, ec]; rfl
      have hRec : fol b (k + 1) a j s = fol b k ((n - 192) * 256 + c) (j + 1) s := by
        rw [← hD]
        conv => lhs; unfold fol
        rw [e]; simp only [if_neg h0, if_neg h64, if_neg h192, if_neg hl2, if_neg hj64]
      have hP : endp b (k + 1) a = a + 2 := by unfold endp; rw [e]; simp only [if_neg h0, if_neg h64]
      rw [hRec, hP] at hgood
      rw [hRec] at hbad
      obtain ⟨q', _, q2', q3'⟩ := (hp.at h).idx (bytesA_get ec)
      have w3 : wrapA 9223372036854775807 ((a : Int) + 1) = ((a + 1 : Nat) : Int) := by rw [wrapA_i64 (by omega) (by omega)]; simp
      have wc : wrapA 9223372036854775807 (c : Int) = (c : Int) := wrapA_nat (by omega)
      have b1 : ∀ (h : AH) (κ : Ka), bitA 9223372036854775807 18446744073709551615 Nat.land (.int 9223372036854775807 (n : Int)) (.int 9223372036854775807 63) h κ = κ (.int 9223372036854775807 ((n - 192 : Nat) : Int)) h := fun h κ => by
        rw [bitA_eq, toU_nat (by omega), show toU 18446744073709551615 63 = 63 from toU_int (by decide) (by decide), show Nat.land n 63 = n % 64 from Nat.and_two_pow_sub_one_eq_mod n 6, wrapA_nat (by omega), show n % 64 = n - 192 by omega]
      have b2 : ∀ (h : AH) (κ : Ka), shlA 9223372036854775807 64 (.int 9223372036854775807 ((n - 192 : Nat) : Int)) (.int 18446744073709551615 8) h κ = κ (.int 9223372036854775807 (((n - 192) * 256 : Nat) : Int)) h := fun h κ => by
        have e8 : ((n - 192 : Nat) : Int) * ((2 ^ Int.toNat 8 : Nat) : Int) = (((n - 192) * 256 : Nat) : Int) := by
          rw [show Int.toNat 8 = 8 from rfl, show (2 ^ 8 : Nat) = 256 from rfl]
          exact (Int.natCast_mul _ _).symm
        rw [shlA_eq _ (by decide) (by decide), e8, wrapA_nat (by omega)]
      have b3 : ∀ (h : AH) (κ : Ka), bitA 9223372036854775807 18446744073709551615 Nat.lor (.int 9223372036854775807 (((n - 192) * 256 : Nat) : Int)) (.int 9223372036854775807 (c : Int)) h κ = κ (.int 9223372036854775807 (((n - 192) * 256 + c : Nat) : Int)) h := fun h κ => by
        have : Nat.lor ((n - 192) * 256) c = (n - 192) * 256 + c := by
          have := (Nat.two_pow_add_eq_or_of_lt (i := 8) (b := c) (by omega) (n - 192)).symm
          rw [Nat.mul_comm (2 ^ 8)] at this
          exact this
        rw [bitA_eq, toU_nat (by omega), toU_nat (by omega), this, wrapA_nat (by omega)]
      by_cases hE : E < 0
      · have e7 : decide (E < 0) = true := decide_eq_true hE
        rw [if_pos hE] at hgood
        simp only [sy, List.length_append, Nat.reduceAdd, Nat.reduceMul, Nat.reduceSub, Nat.reduceLeDiff, Nat.reduceEqDiff, Nat.reduceLT, reduceIte, kRes_s, hL, e1, q2, q3, wn, e2, e3, e4, w1, e5, w2, e6, e7, b1, b2, w3, q2', q3', wc, b3]
        refine ih (f + k + 1) ((n - 192) * 256 + c) (j + 1) s ((a + 2 : Nat) : Int) O h w _ _ _ _ _ _ _ _ _ _ _ _ _ _ _ (by omega) (by omega) (by omega) hs (by omega) (by omega) (by omega) (by omega) hw hmh hbad (fun hz => ?_)
        rw [if_neg (show ¬((a + 2 : Nat) : Int) < 0 by omega)]
        exact hgood hz
      · have e7 : decide (E < 0) = false := decide_eq_false hE
        rw [if_neg hE] at hgood
        simp only [sy, List.length_append, Nat.reduceAdd, Nat.reduceMul, Nat.reduceSub, Nat.reduceLeDiff, Nat.reduceEqDiff, Nat.reduceLT, reduceIte, kRes_s, hL, e1, q2, q3, wn, e2, e3, e4, w1, e5, w2, e6, e7, b1, b2, w3, q2', q3', wc, b3]
        refine ih (f + k + 1) ((n - 192) * 256 + c) (j + 1) s E O h w _ _ _ _ _ _ _ _ _ _ _ _ _ _ _ (by omega) (by omega) (by omega) hs (by omega) hE1 hE2 (by omega) hw hmh hbad (fun hz => ?_)
        rw [if_neg hE]
        exact hgood hz
/-- The law's own reading of a name, where there is one. -/
theorem nam_loop {c : List Nat} {a : Nat} (hbc : c = b.drop a) (hp : PureS v0 (bytesA c)) (hb : b.length ≤ 400) (hc : ∀ x ∈ b, x < 256) {m B2 B5 y2 : Nat} {u : AV} {z : Int} (h25 : B2 ≠ B5) (h2 : B2 < m) (h5 : B5 < m) (ha : a ≤ 400) : ∀ (k f p j s : Nat) (O : List (List Nat)) (h : AH) (w v3 v4 v7 v12 v18 v24 v31 v47 : AV), k + 1 ≤ f → p ≤ 400 → O.length + k ≤ 1000 → (fol b k (a + p) j s).2 = 0 →
    hget h B2 = some (.cells [u, .int 9223372036854775807 z] y2) → hget h B5 = some (.cells [w, .int 9223372036854775807 (-1)] (32 + 1)) → SlFull m h w (strsA O) → m ≤ h.length →
    (∀ h' w' x v7 v12 v18 v24 v31 v47 v6 M, hget h' B2 = some (.cells [w', .int 9223372036854775807 x] y2) → SlAt h' w' (strsA (O ++ M)) → M.length ≤ (fol b k (a + p) j s).1.length → (∀ i, i < m → i ≠ B2 → i ≠ B5 → hget h' i = hget h i) → h.length ≤ h'.length →
      Q (κx .ret ⟨kNam_T v0 (.pto B2 0) (.int 9223372036854775807 ((endp b k (a + p) - a : Nat) : Int)) (.bool true) (.pto B5 0) v6 v7 v12 v18 v24 v31 v47, h'⟩)) →
    Q (kcR κn κx ((rl (CL mx) f).lp (kNam_3 mx) ⟨kNam_T v0 (.pto B2 0) v3 v4 (.pto B5 0) (.int 9223372036854775807 (p : Int)) v7 v12 v18 v24 v31 v47, h⟩)) := by
  intro k
  induction k with
  | zero => intro f p j s O h w v3 v4 v7 v12 v18 v24 v31 v47 _ _ _ hz; simp [fol] at hz
  | succ k ih =>
    intro f p j s O h w v3 v4 v7 v12 v18 v24 v31 v47 hf hp4 hO hz g2 g5 hw hm hk
    obtain ⟨f, rfl⟩ := fuel hf
    refine wLoop (kNam_nat mx _) ?_
    have hL := hp.len
    rw [bytesA_len] at hL
    have hcl : c.length = b.length - a := by rw [hbc, List.length_drop]
    have l2 : B2 < h.length := hget_of_lt g2
    have l5 : B5 < h.length := hget_of_lt g5
    have pw := hw.at.plain
    cases e : b[a + p]? with
    | none =>
      have hF : fol b (k + 1) (a + p) j s = ([], 10) := by unfold fol; rw [e]
      rw [hF] at hz; simp at hz
    | some n =>
      have hlt : a + p < b.length := (List.getElem?_eq_some_iff.1 e).1
      have hn : n < 256 := hc n (List.mem_of_getElem? e)
      have ec : c[p]? = some n := by rw [hbc, List.getElem?_drop]; exact e
      obtain ⟨q, _, q2, q3⟩ := (hp.at h).idx (bytesA_get ec)
      have e1 : decide ((p : Int) < (c.length : Int)) = true := by rw [decide_eq_true_iff]; omega
      have wn : wrapA 9223372036854775807 (n : Int) = (n : Int) := wrapA_nat (by omega)
      have gset : ∀ x, hget (h.set B2 x) B2 = x := fun x => hget_set_same l2 x
      by_cases h0 : n = 0
      · have hF : fol b (k + 1) (a + p) j s = ([], 0) := by unfold fol; rw [e]; simp only [if_pos h0]
        have hP : endp b (k + 1) (a + p) - a = p + 1 := by
          have : endp b (k + 1) (a + p) = a + p + 1 := by unfold endp; rw [e]; simp only [if_pos h0]
          omega
        rw [hF, hP] at hk
        have e2 : decide ((n : Int) = 0) = true := by rw [decide_eq_true_iff]; omega
        have w1 : wrapA 9223372036854775807 ((p : Int) + 1) = ((p + 1 : Nat) : Int) := by rw [wrapA_i64 (by omega) (by omega)]; simp
        simp only [sy, List.length_append, Nat.reduceAdd, Nat.reduceMul, Nat.reduceSub, Nat.reduceLeDiff, Nat.reduceEqDiff, Nat.reduceLT, reduceIte, kNam_s, hL, e1, q2, q3, wn, e2, w1, g5, g2, pw]
        refine hk _ w _ _ _ _ _ _ _ _ [] (gset _) ?_ (by simp) (fun i hi hi2 hi5 => hget_set_ne (Ne.symm hi2) _) (by simp)
        rw [List.append_nil]
        exact (hw.up fun i hi hil => hget_set_ne (by omega) _).at
      have e2 : decide ((n : Int) = 0) = false := by rw [decide_eq_false_iff_not]; omega
      by_cases h64 : n < 64
      · have e3 : decide ((192 : Int) ≤ (n : Int)) = false := by rw [decide_eq_false_iff_not]; omega
        have e4 : decide ((63 : Int) < (n : Int)) = false := by rw [decide_eq_false_iff_not]; omega
        have hl2 : ¬ b.length ≤ a + p + n := by
          intro c
          have hF : fol b (k + 1) (a + p) j s = ([], 10) := by unfold fol; rw [e]; simp only [if_neg h0, if_pos h64, if_pos c]
          rw [hF] at hz; simp at hz
        have h255 : ¬ 255 < s + n + 1 := by
          intro c
          have hF : fol b (k + 1) (a + p) j s = ([], 2) := by unfold fol; rw [e]; simp only [if_neg h0, if_pos h64, if_neg hl2, if_pos c]
          rw [hF] at hz; simp at hz
        have hRec : fol b (k + 1) (a + p) j s = (if (fol b k (a + p + n + 1) j (s + n + 1)).2 = 0 then ((b.drop (a + p + 1)).take n :: (fol b k (a + p + n + 1) j (s + n + 1)).1, 0) else ([], (fol b k (a + p + n + 1) j (s + n + 1)).2)) := by
          conv => lhs; unfold fol
          rw [e]; simp only [if_neg h0, if_pos h64, if_neg hl2, if_neg h255]
        have hz2 : (fol b k (a + p + n + 1) j (s + n + 1)).2 = 0 := by
          apply Classical.byContradiction
          intro c
          rw [hRec, if_neg c] at hz
          exact c hz
        rw [hRec, if_pos hz2] at hk
        have hP : endp b (k + 1) (a + p) = endp b k (a + (p + n + 1)) := by
          conv => lhs; unfold endp
          rw [e]; simp only [if_neg h0, if_pos h64]
          rw [show a + (p + n + 1) = a + p + n + 1 by omega]
        rw [hP] at hk
        have w1 : wrapA 9223372036854775807 ((p : Int) + 1) = ((p + 1 : Nat) : Int) := by rw [wrapA_i64 (by omega) (by omega)]; simp
        have w2 : wrapA 9223372036854775807 (((p + 1 : Nat) : Int) + (n : Int)) = ((p + 1 + n : Nat) : Int) := by rw [wrapA_i64 (by omega) (by omega)]; simp
        have e5 : decide ((c.length : Int) < ((p + 1 + n : Nat) : Int)) = false := by rw [decide_eq_false_iff_not]; omega
        have hne : bytesA c ≠ [] := by
          intro d
          have := bytesA_len c
          rw [d] at this
          simp at this; omega
        have hcut := hp.cut hne (l := p + 1) (u := p + 1 + n) (by omega) (by rw [bytesA_len]; omega) 9223372036854775807 9223372036854775807
        have hst : ∀ (h : AH) (κ : Ka), bytesStr (.slp (((bytesA c).drop (p + 1)).take (p + 1 + n - (p + 1))) (p + 1 + n - (p + 1))) h κ = κ (.str ((c.drop (p + 1)).take n)) h := fun h κ => by
          have en : p + 1 + n - (p + 1) = n := by omega
          rw [en, bytesA_drop, bytesA_take]
          exact str_of ((PureS.mk _ (by rw [bytesA_len, List.length_take, List.length_drop]; omega)).at h) (fun x hx => hc x (by rw [hbc] at hx; exact List.mem_of_mem_drop (List.mem_of_mem_drop (List.mem_of_mem_take hx)))) κ
        have w5 : wrapA 9223372036854775807 (1 + (n : Int)) = ((1 + n : Nat) : Int) := by rw [wrapA_i64 (by omega) (by omega)]; simp
        have w6 : wrapA 9223372036854775807 ((p : Int) + ((1 + n : Nat) : Int)) = ((p + n + 1 : Nat) : Int) := by rw [wrapA_i64 (by omega) (by omega)]; push_cast; omega
        simp only [sy, List.length_append, Nat.reduceAdd, Nat.reduceMul, Nat.reduceSub, Nat.reduceLeDiff, Nat.reduceEqDiff, Nat.reduceLT, reduceIte, kNam_s, hL, e1, q2, q3, wn, e2, e3, e4, w1, w2, e5, g5, hcut, hst, bldS_str]
        refine wApp _ (by decide) (m := m) (by simp; omega) (hw.push _) ((SlFull.new (m := 0) (Nat.zero_le _) _ _ _).at) (strsA_plains [_]) (by rw [strsA_len]; simp; omega) fun w' h' hw' hfr => ?_
        have f2 : hget h' B2 = some (.cells [u, .int 9223372036854775807 z] y2) := by rw [hfr.2 _ h2, hget_old l2]; exact g2
        have f5 : hget h' B5 = some (.cells [w, .int 9223372036854775807 (-1)] (32 + 1)) := by rw [hfr.2 _ h5, hget_old l5]; exact g5
        have l5' : B5 < h'.length := hget_of_lt f5
        have lle : (h ++ [some (Blk.cells [AV.str ((c.drop (p + 1)).take n)] 0)]).length ≤ h'.length := hfr.1
        have lle2 : h.length + 1 ≤ h'.length := by simpa using lle
        have q1 : Nat.ble (flen (h ++ [some (Blk.cells [AV.str ((c.drop (p + 1)).take n)] 0)])) (flen h') = true := by rw [nble, flen_eq, flen_eq]; exact decide_eq_true lle
        have q2 : ∀ x, Nat.ble (flen h') (flen (h'.set B5 x)) = true := fun x => by rw [nble, flen_eq, flen_eq]; exact decide_eq_true (by simp)
        simp only [sy, List.length_append, Nat.reduceAdd, Nat.reduceMul, Nat.reduceSub, Nat.reduceLeDiff, Nat.reduceEqDiff, Nat.reduceLT, reduceIte, kNam_s, q1, q2, f5, hw'.at.plain, w5, w6]
        rw [show a + p + n + 1 = a + (p + n + 1) by omega] at hz2 hk
        refine ih (f + k + 1) (p + n + 1) j (s + n + 1) (O ++ [(c.drop (p + 1)).take n]) (h'.set B5 _) w' _ _ _ _ _ _ _ _ (by omega) (by omega) (by simp; omega) hz2 (by rw [hget_set_ne (Ne.symm h25)]; exact f2) (hget_set_same l5' _) (by rw [strsA_app]; exact hw'.up fun i hi hil => hget_set_ne (by omega) _) (by simp; omega) ?_
        intro h2 w2 x v7 v12 v18 v24 v31 v47 v6 M r1 r2 r3 r4 r5
        refine hk h2 w2 x _ _ _ _ _ _ _ ((c.drop (p + 1)).take n :: M) r1 (by rw [List.append_assoc] at r2; exact r2) (by simpa using r3) (fun i hi hi2 hi5 => ?_) (by simp at r5; omega)
        rw [r4 i hi hi2 hi5, hget_set_ne (Ne.symm hi5), hfr.2 i hi, hget_old (by omega)]
      have h192 : ¬ n < 192 := by
        intro c
        have hF : fol b (k + 1) (a + p) j s = ([], 212) := by unfold fol; rw [e]; simp only [if_neg h0, if_neg h64, if_pos c]
        rw [hF] at hz; simp at hz
      have hl2 : ¬ b.length ≤ a + p + 1 := by
        intro c
        have hF : fol b (k + 1) (a + p) j s = ([], 10) := by unfold fol; rw [e]; simp only [if_neg h0, if_neg h64, if_neg h192, if_pos c]
        rw [hF] at hz; simp at hz
      have e3 : decide ((192 : Int) ≤ (n : Int)) = true := by rw [decide_eq_true_iff]; omega
      have w1 : wrapA 9223372036854775807 ((p : Int) + 2) = ((p + 2 : Nat) : Int) := by rw [wrapA_i64 (by omega) (by omega)]; simp
      have e4 : decide ((c.length : Int) < ((p + 2 : Nat) : Int)) = false := by rw [decide_eq_false_iff_not]; omega
      obtain ⟨d, ed⟩ : ∃ d, b[a + p + 1]? = some d := ⟨_, List.getElem?_eq_getElem (by omega)⟩
      have hd2 : d < 256 := hc d (List.mem_of_getElem? ed)
      have ed' : c[p + 1]? = some d := by rw [hbc, List.getElem?_drop]; exact ed
      obtain ⟨q', _, q2', q3'⟩ := (hp.at h).idx (bytesA_get ed')
      have w3 : wrapA 9223372036854775807 ((p : Int) + 1) = ((p + 1 : Nat) : Int) := by rw [wrapA_i64 (by omega) (by omega)]; simp
      have wd : wrapA 9223372036854775807 (d : Int) = (d : Int) := wrapA_nat (by omega)
      have w4 : wrapA 9223372036854775807 ((n : Int) - 192) = ((n - 192 : Nat) : Int) := by rw [wrapA_i64 (by omega) (by omega)]; omega
      have w5 : wrapA 9223372036854775807 (((n - 192 : Nat) : Int) * 256) = (((n - 192) * 256 : Nat) : Int) := by rw [wrapA_i64 (by omega) (by omega)]; simp
      have w6 : wrapA 9223372036854775807 ((((n - 192) * 256 : Nat) : Int) + (d : Int)) = (((n - 192) * 256 + d : Nat) : Int) := by rw [wrapA_i64 (by omega) (by omega)]; simp
      have hP : endp b (k + 1) (a + p) - a = p + 2 := by
        have : endp b (k + 1) (a + p) = a + p + 2 := by unfold endp; rw [e]; simp only [if_neg h0, if_neg h64]
        omega
      rw [hP] at hk
      have f5 : ∀ x, hget (h.set B5 x) B5 = x := fun x => hget_set_same l5 x
      have f2 : ∀ x, hget (h.set B5 x) B2 = some (.cells [u, .int 9223372036854775807 z] y2) := fun x => by rw [hget_set_ne (Ne.symm h25)]; exact g2
      simp only [sy, List.length_append, Nat.reduceAdd, Nat.reduceMul, Nat.reduceSub, Nat.reduceLeDiff, Nat.reduceEqDiff, Nat.reduceLT, reduceIte, kNam_s, hL, e1, q2, q3, wn, e2, e3, w1, e4, w3, q2', q3', wd, w4, w5, w6, g5, f5, f2, pw]
      refine hk _ w _ _ _ _ _ _ _ _ [] (hget_set_same (by simpa using l2) _) ?_ (by simp) (fun i hi hi2 hi5 => by rw [hget_set_ne (Ne.symm hi2), hget_set_ne (Ne.symm hi5)]) (by simp)
      rw [List.append_nil]
      exact (hw.up fun i hi hil => by rw [hget_set_ne (by omega), hget_set_ne (by omega)]).at
theorem nam_gives {c : List Nat} {a : Nat} (hbc : c = b.drop a) (hp : PureS v0 (bytesA c)) (hb : b.length ≤ 400) (hc : ∀ x ∈ b, x < 256) (ha : a ≤ 400) (k f j s : Nat) (h : AH) (hf : k + 2 ≤ f) (hk : k ≤ 1000) (hz : (fol b k a j s).2 = 0) :
    Gives (fun r h' => ∃ w x M, r = .tup [.agg [w, .int 9223372036854775807 x], .int 9223372036854775807 ((endp b k a - a : Nat) : Int), .bool true] ∧ SlAt h' w (strsA M) ∧ M.length ≤ (fol b k a j s).1.length ∧ Fr h.length h h') ((rl (CL mx) f).run 10 [v0] h) := by
  obtain ⟨f, rfl⟩ := fuel hf
  refine Gives.runs (n := f + k + 1) (kNam_run mx _ _ _ _) ?_
  have hbld := fun h κ => bldA_of (h := h) (κ := κ) (place := placeOf (CL mx) [(0, 24), (1, 3)]) (z := [.nils, .int 9223372036854775807 0]) (ps := [(1, .int 9223372036854775807 (-1))]) (cs := [.nils, .int 9223372036854775807 (-1)]) (by kernel_rfl)
  simp only [sy, Nat.reduceAdd, Nat.reduceMul, Nat.reduceSub, Nat.reduceLeDiff, Nat.reduceEqDiff, Nat.reduceLT, reduceIte, kNam_s, hbld]
  have g2 : hget (h ++ [some (Blk.cells [.nils, .int 9223372036854775807 0] (32 + 1))] ++ [some (Blk.cells [.nils, .int 9223372036854775807 (-1)] (32 + 1))]) h.length = some (Blk.cells [.nils, .int 9223372036854775807 0] (32 + 1)) := by rw [hget_old (by simp), hget_top]
  refine nam_loop (m := h.length + 2) hbc hp hb hc (B2 := h.length) (B5 := (h ++ [some (Blk.cells [.nils, .int 9223372036854775807 0] (32 + 1))]).length) (by simp) (by omega) (by simp) ha k (f + k + 1) 0 j s [] _ _ _ _ _ _ _ _ _ _ (by omega) (by omega) (by simp; omega) hz g2 (hget_top _ _) SlFull.nil (by simp) ?_
  intro h' w' x v7 v12 v18 v24 v31 v47 v6 M r1 r2 r3 r4 r5
  simp only [sy, List.length_append, Nat.reduceAdd, Nat.reduceMul, Nat.reduceSub, Nat.reduceLeDiff, Nat.reduceEqDiff, Nat.reduceLT, reduceIte, kNam_s, r1]
  refine Ends.mk ⟨w', x, M, rfl, r2, r3, by simp at r5; omega, fun i hi => ?_⟩
  rw [r4 i (by omega) (by omega) (by simp; omega), List.append_assoc, hget_old hi]
theorem law_run (hp : PureS v0 (bytesA b)) (hbm : b.length ≤ maxLen) (hc : ∀ x ∈ b, x < 256) (A : Int) : ∃ h', (rl (CL mx) 400).run 3 [v0, .int 9223372036854775807 A] [] = some (.bool true, h') := by
  have g : Gives (fun r _ => r = .bool true) ((rl (CL mx) 400).run 3 [v0, .int 9223372036854775807 A] []) := by
    refine Gives.runs (n := 399) (kLaw_run mx _ _ _ _ _) ?_
    have hL := hp.len
    rw [bytesA_len] at hL
    have hhead := fun h => callA_memo (C := CL mx) (run := (rl (CL mx) 399).run) (h := h) (f := 6) (args := []) (v := .bool true) (by kernel_rfl) (by kernel_rfl) (by kernel_rfl)
    by_cases h400 : (400 : Int) < (b.length : Int)
    · simp only [sy, List.length_append, Nat.reduceAdd, Nat.reduceMul, Nat.reduceSub, Nat.reduceLeDiff, Nat.reduceEqDiff, Nat.reduceLT, reduceIte, kLaw_s, hhead, hL, decide_eq_true h400]
      exact Ends.mk rfl
    have hb : b.length ≤ 400 := by omega
    simp only [sy, List.length_append, Nat.reduceAdd, Nat.reduceMul, Nat.reduceSub, Nat.reduceLeDiff, Nat.reduceEqDiff, Nat.reduceLT, reduceIte, kLaw_s, hhead, hL, decide_eq_false h400]
    -- the program's answer
    by_cases hr : A < 0 ∨ (b.length : Int) < A
    · have hres : Gives (fun r h' => r = .tup [.nils, .int 9223372036854775807 0, .int 9223372036854775807 1]) ((rl (CL mx) 399).run 7 [v0, .int 9223372036854775807 A] []) := by
        refine Gives.runs (n := 398) (kRes_run mx _ _ _ _ _) ?_
        by_cases h1 : A < 0
        · simp only [sy, List.length_append, Nat.reduceAdd, Nat.reduceMul, Nat.reduceSub, Nat.reduceLeDiff, Nat.reduceEqDiff, Nat.reduceLT, reduceIte, kRes_s, hL, decide_eq_true h1]
          exact Ends.mk rfl
        · have h2 : (b.length : Int) < A := by omega
          simp only [sy, List.length_append, Nat.reduceAdd, Nat.reduceMul, Nat.reduceSub, Nat.reduceLeDiff, Nat.reduceEqDiff, Nat.reduceLT, reduceIte, kRes_s, hL, decide_eq_false h1, decide_eq_true h2]
          exact Ends.mk rfl
      refine wCall hres.call ?_
      rintro r h' rfl
      by_cases h1 : A < 0
      · simp only [sy, List.length_append, Nat.reduceAdd, Nat.reduceMul, Nat.reduceSub, Nat.reduceLeDiff, Nat.reduceEqDiff, Nat.reduceLT, reduceIte, kLaw_s, hL, decide_eq_true h1]
        exact Ends.mk rfl
      · have h2 : (b.length : Int) < A := by omega
        simp only [sy, List.length_append, Nat.reduceAdd, Nat.reduceMul, Nat.reduceSub, Nat.reduceLeDiff, Nat.reduceEqDiff, Nat.reduceLT, reduceIte, kLaw_s, hL, decide_eq_false h1, decide_eq_true h2]
        exact Ends.mk rfl
    obtain ⟨a, rfl⟩ : ∃ a : Nat, A = (a : Int) := ⟨A.toNat, by omega⟩
    have ha : a ≤ b.length := by omega
    have e1 : decide ((a : Int) < 0) = false := by rw [decide_eq_false_iff_not]; omega
    have e2 : decide ((b.length : Int) < (a : Int)) = false := by rw [decide_eq_false_iff_not]; omega
    have hres : Gives (fun r h' => ((fol b 350 a 0 1).2 ≠ 0 → r = .tup [.nils, .int 9223372036854775807 0, .int 9223372036854775807 ((fol b 350 a 0 1).2 : Int)]) ∧
        ((fol b 350 a 0 1).2 = 0 → ∃ w, r = .tup [w, .int 9223372036854775807 ((endp b 350 a : Nat) : Int), .int 9223372036854775807 0] ∧ SlAt h' w (strsA (fol b 350 a 0 1).1))) ((rl (CL mx) 399).run 7 [v0, .int 9223372036854775807 (a : Int)] []) := by
      refine Gives.runs (n := 398) (kRes_run mx _ _ _ _ _) ?_
      simp only [sy, List.length_append, Nat.reduceAdd, Nat.reduceMul, Nat.reduceSub, Nat.reduceLeDiff, Nat.reduceEqDiff, Nat.reduceLT, reduceIte, kRes_s, hL, e1, e2]
      refine res_loop (m := 0) hp hb hc 350 _ a 0 1 (-1) [] _ _ _ _ _ _ _ _ _ _ _ _ _ _ _ _ _ (by omega) (by omega) (by omega) (by omega) (by omega) (by omega) (by omega) (by simp) SlFull.nil (by simp) (fun hz h v7 v8 v9 v10 v11 v19 v23 v33 v37 v39 v52 v56 v61 v70 v76 v93 vv1 => ?_) (fun hz h w v7 v8 v9 v10 v11 v19 v23 v33 v37 v39 v52 v56 v61 v70 v76 v93 vv1 hsl => ?_)
      · simp only [sy, List.length_append, Nat.reduceAdd, Nat.reduceMul, Nat.reduceSub, Nat.reduceLeDiff, Nat.reduceEqDiff, Nat.reduceLT, reduceIte, kRes_s]
        exact Ends.mk ⟨fun _ => rfl, fun c => absurd c hz⟩
      · simp only [sy, List.length_append, Nat.reduceAdd, Nat.reduceMul, Nat.reduceSub, Nat.reduceLeDiff, Nat.reduceEqDiff, Nat.reduceLT, reduceIte, kRes_s]
        exact Ends.mk ⟨fun c => absurd hz c, fun _ => ⟨w, rfl, by rw [List.nil_append] at hsl; exact hsl⟩⟩
    refine wCall hres.call ?_
    rintro r h1 ⟨q1, q2⟩
    obtain ⟨w, E, rfl, hw, hE0, hE1⟩ : ∃ w E, r = .tup [w, .int 9223372036854775807 E, .int 9223372036854775807 ((fol b 350 a 0 1).2 : Int)] ∧ SlAt h1 w (strsA (fol b 350 a 0 1).1) ∧ ((fol b 350 a 0 1).2 ≠ 0 → E = 0) ∧ ((fol b 350 a 0 1).2 = 0 → E = ((endp b 350 a : Nat) : Int)) := by
      by_cases hz : (fol b 350 a 0 1).2 = 0
      · obtain ⟨w, rfl, hw⟩ := q2 hz
        exact ⟨w, _, by rw [hz]; rfl, hw, fun c => absurd hz c, fun _ => rfl⟩
      · exact ⟨.nils, 0, q1 hz, by rw [fol_bad b _ _ _ _ hz]; exact .inl ⟨rfl, .inl rfl⟩, fun _ => rfl, fun c => absurd c hz⟩
    simp only [sy, List.length_append, Nat.reduceAdd, Nat.reduceMul, Nat.reduceSub, Nat.reduceLeDiff, Nat.reduceEqDiff, Nat.reduceLT, reduceIte, kLaw_s, hL, e1, e2]
    refine wCall (fol_gives hp hb hc 350 399 a 0 1 h1 (by omega) (by omega) (by omega) (by omega) (by omega) (by omega)).call ?_
    rintro r h2 ⟨u, rfl, hu, hfr⟩
    have hle := fol_len b 350 a 0 1
    have hne0 : decide ((((fol b 350 a 0 1).2 : Nat) : Int) ≠ (((fol b 350 a 0 1).2 : Nat) : Int)) = false := by simp
    simp only [sy, List.length_append, Nat.reduceAdd, Nat.reduceMul, Nat.reduceSub, Nat.reduceLeDiff, Nat.reduceEqDiff, Nat.reduceLT, reduceIte, kLaw_s, hne0]
    refine wCall (equ_gives (hw.up hfr) hu (by omega) 399 (by omega)).call ?_
    rintro r h3 ⟨rfl, eh3⟩
    rw [eh3]
    have ht : decide ((fol b 350 a 0 1).1 = (fol b 350 a 0 1).1) = true := decide_eq_true rfl
    by_cases hz : (fol b 350 a 0 1).2 = 0
    · have e3 : decide ((((fol b 350 a 0 1).2 : Nat) : Int) ≠ 0) = false := by rw [decide_eq_false_iff_not]; omega
      have hne : bytesA b ≠ [] := by
        intro c
        have hl0 : b.length = 0 := by have := bytesA_len b; rw [c] at this; simpa using this.symm
        have : (fol b 350 a 0 1).2 = 10 := by unfold fol; rw [List.getElem?_eq_none (by omega)]
        omega
      have hcut := hp.tail hne (l := a) (by rw [bytesA_len]; omega) 9223372036854775807
      rw [bytesA_drop, bytesA_len] at hcut
      simp only [sy, List.length_append, Nat.reduceAdd, Nat.reduceMul, Nat.reduceSub, Nat.reduceLeDiff, Nat.reduceEqDiff, Nat.reduceLT, reduceIte, kLaw_s, ht, e3, hcut]
      refine wCall (nam_gives (c := b.drop a) rfl (PureS.mk _ (by rw [bytesA_len, List.length_drop])) hb hc (by omega) 350 399 0 1 h2 (by omega) (by omega) hz).call ?_
      rintro r h4 ⟨n, x, M, rfl, hn, hM, hfr4⟩
      have pn := hn.plain
      have hw4 := fun h κ => (hw.up hfr).lenS (h := h2) h κ
      have hn4 := fun h κ => hn.lenS (h := h4) h κ
      rw [strsA_len] at hw4 hn4
      have hend := endp_le b 350 a
      have w1 : wrapA 9223372036854775807 ((a : Int) + ((endp b 350 a - a : Nat) : Int)) = E := by
        have hup : endp b 350 a ≤ 20000 := by
          apply Nat.le_of_not_lt
          intro c
          have : ∀ (k a : Nat), endp b k a ≤ max a (b.length + 300) + 2 := by
            intro k
            induction k with
            | zero => intro a; unfold endp; omega
            | succ k ih =>
              intro a
              unfold endp
              split
              · omega
              · rename_i n e
                have hl := (List.getElem?_eq_some_iff.1 e).1
                have hn := hc n (List.mem_of_getElem? e)
                have := ih (a + n + 1)
                split
                · omega
                · split <;> omega
          have := this 350 a
          omega
        rw [wrapA_i64 (by omega) (by omega), hE1 hz]; omega
      have e4 : decide ((M.length : Int) ≤ ((fol b 350 a 0 1).1.length : Int)) = true := by rw [decide_eq_true_iff]; omega
      have e5 : decide (E = E) = true := decide_eq_true rfl
      simp only [sy, Nat.reduceAdd, Nat.reduceMul, Nat.reduceSub, Nat.reduceLeDiff, Nat.reduceEqDiff, Nat.reduceLT, reduceIte, kLaw_s, pn, w1, e5, hn4, hw4, e4]
      exact Ends.mk rfl
    · have e3 : decide ((((fol b 350 a 0 1).2 : Nat) : Int) ≠ 0) = true := by rw [decide_eq_true_iff]; omega
      have e4 : decide (E = 0) = true := decide_eq_true (hE0 hz)
      simp only [sy, List.length_append, Nat.reduceAdd, Nat.reduceMul, Nat.reduceSub, Nat.reduceLeDiff, Nat.reduceEqDiff, Nat.reduceLT, reduceIte, kLaw_s, ht, e3, e4]
      exact Ends.mk rfl
  obtain ⟨r, h', e, rfl⟩ := g
  exact ⟨h', e⟩
end
/-- Bytes that came in. -/
theorem bytes_open {n : Nat} : ∀ {len : Nat} {cs : List AV}, TyL (TyC Tryz.prog n) (List.replicate len 5) cs → ∃ L : List Nat, cs = bytesA L ∧ L.length = len ∧ ∀ x ∈ L, x < 256
  | 0, cs, h => ⟨[], by rw [show cs = [] from h]; rfl, rfl, fun _ h => nomatch h⟩
  | len + 1, cs, h => by
    rw [List.replicate_succ] at h
    obtain ⟨a, r, rfl, h1, h2⟩ := h
    obtain ⟨L, rfl, g2, g3⟩ := bytes_open h2
    obtain ⟨k, rfl, wk⟩ := TyC.int_ Tryz.underlying5 h1
    obtain ⟨k0, k1⟩ := Go.bounds_u8 wk
    obtain ⟨q, rfl⟩ : ∃ q : Nat, k = (q : Int) := ⟨k.toNat, by omega⟩
    refine ⟨q :: L, rfl, by simp [g2], fun x hx => ?_⟩
    rcases List.mem_cons.1 hx with rfl | hx
    · omega
    · exact g3 x hx
theorem bytes_arg {n : Nat} {a : AV} (t : TyC Tryz.prog n 22 [a]) : ∃ bs : List Nat, PureS a (bytesA bs) ∧ (∀ c ∈ bs, c < 256) ∧ bs.length ≤ maxLen := by
  rcases TyC.slice_ Tryz.underlying22 t with e | e | ⟨m, cs, len, e, g1, g2, g3⟩
  · cases e; exact ⟨[], .inl ⟨rfl, .inl rfl⟩, (fun _ h => nomatch h), Nat.zero_le _⟩
  · cases e; exact ⟨[], .inl ⟨rfl, .inr rfl⟩, (fun _ h => nomatch h), Nat.zero_le _⟩
  · cases e
    obtain ⟨L, rfl, q2, q3⟩ := bytes_open g3
    exact ⟨L, .inr (by rw [bytesA_len, q2]), q3, by omega⟩
set_option maxRecDepth 100000 in
theorem DnsResolves_calls {W : World} {args : Array Value} {a0 a1 : AV} {n0 n1 : Nat} {mx : Int} (I : Inv (C0 mx) (· < W.heap.size) W ρ0 []) (hv : VL (· < W.heap.size) W [a0, a1] ρ0 args.toList)
    (t0 : TyV Tryz.prog n0 22 a0) (t1 : TyV Tryz.prog n1 3 a1) : Calls Tryz.prog 3 args W fun e w' => e = .returned (.bool true) ∧ RowKit.Below W.heap.size W w' := by
  obtain ⟨T, rfl, wT⟩ := TyV.int_ Tryz.underlying3 t1
  obtain ⟨bs, h1, hc, hbm⟩ := bytes_arg (n := n0) (a := a0) (by unfold TyV at t0; rw [Tryz.underlying22] at t0; exact t0)
  obtain ⟨h', e⟩ := law_run (mx := mx) h1 hbm hc T
  exact calls_of_run (runN_ok cl_ok 400 _ _ _ _ _ e) (((I.of_gl (opened_gl _ _ _)).of_gl (told_gl _ _)).of_gl (ownd_gl _ _)) hv
end Go.Proofs.YtgjoogfoeomcdaaGreatDoor
