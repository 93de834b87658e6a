/- The law DnsSpec: its run. The functions' code is printed by a program. -/
import Derived.Test.YtgjoogfoeomcdaaGreatDoorMF
import Derived.Test.YtgjoogfoeomcdaaGreatDoorAs
import Derived.Test.YtgjoogfoeomcdaaGreatDoorME
namespace Go.Proofs.YtgjoogfoeomcdaaGreatDoor
set_option linter.unusedSimpArgs false
set_option linter.unusedVariables false
set_option linter.unnecessarySimpa false
set_option linter.defProp false
noncomputable section
/-- What is told ahead: the head, the specification, that it is accepted, and how it nests. -/
def tolT : BT (List (List AV × AV)) := .nd 15 (.nd 12 (.lf 6 [([], .bool true)]) (.lf 12 [asp34])) (.nd 16 (.lf 15 [asp58]) (.lf 16 [asp50]))
/-- The equations below are said of any table: the kernel is not to look into this one. -/
structure MT where
  m : Int
  t : BT (List (List AV × AV))
def CL (mx : MT) : Cx := (C1 mx.m).told mx.t
/- guipure/guipurelaw29.DnsSpec -/
def kLaw_T (v0 v1 v2 v3 v5 v9 : AV) : Tm := (.nd 3 (.nd 1 (.lf 0 v0) (.nd 2 (.lf 1 v1) (.lf 2 v2))) (.nd 5 (.lf 3 v3) (.nd 9 (.lf 5 v5) (.lf 9 v9))))
def kLaw_0 (mx : MT) : K := kAt [] (kOf (CL mx) 5)
def kLaw_1 (mx : MT) : K := kAt [1, 1, 1, 1, 0] (kOf (CL mx) 5)
def kLaw_2 (mx : MT) : K := kAt [1, 1, 1, 1, 1] (kOf (CL mx) 5)
section
set_option maxRecDepth 100000
variable (mx : MT) (run : Run) (lp : Lp) (κn : Kt) (κx : Ex → Kt) (h : AH) (v0 v1 v2 v3 v5 v9 : AV)
theorem kLaw_0_eq : kc (CL mx) run lp (kLaw_0 mx) ⟨kLaw_T v0 v1 v2 v3 v5 v9, h⟩ κn κx = boxA 33 v0 h (fun a0 h => withX (fun a1 h => notA a1 h (fun a2 h => kcIf a2 (κx .ret ⟨kLaw_T v0 a0 (.bool false) v3 a2 v9, h⟩) (moveP 0 a0 h (fun a3 h => load1 a3 h (fun a4 h => lenS a4 h (fun a5 h => cmp igt a5 (.int 9223372036854775807 60) h (fun a6 h => kcIf a6 (κx .ret ⟨kLaw_T v0 a0 (.bool true) v3 a2 a6, h⟩) (withX (fun a7 h => newA h (.cells [.nils, .nils] 42) (fun a8 h => storeG 2 a8 a7 h (fun a9 h => kc (CL mx) run lp (kLaw_1 mx) ⟨kLaw_T v0 a0 (.bool false) a8 a2 a6, h⟩ (fun s => kc (CL mx) run lp (kLaw_2 mx) s κn κx) κx))) (callA (CL mx) run 12 [] h))))))))) (callA (CL mx) run 6 [] h)) := by kernel_rfl
def kLaw_1_k (C : Cx) : K := .draw [⟨.mk (o1 (loadG 2) (.tr 1)), [], false, false⟩, ⟨.mk (oCallF 13 [(.st 0)]), [], false, true⟩, ⟨.mk (o1 (loadG 2) (.tr 1)), [], false, false⟩, ⟨.mk (oCallF 14 [(.st 0)]), [], false, true⟩, ⟨.mk (o2 (cmp ibeq) (.st 2) (.st 0)), [], false, false⟩, ⟨.mk (o1 moveA (.st 0)), [], false, false⟩, ⟨.mk (guardA (.st 0) true ((o1 (loadG 2) (.tr 3)))), [], false, false⟩, ⟨.mk (guardA (.st 1) true ((oCallF 15 [(.st 0)]))), [], false, true⟩, ⟨.mk (guardA (.st 2) true ((oBuild (placeOf C [(0, 25), (1, 3)]) [.int 9223372036854775807 0, .int 9223372036854775807 0] []))), [], false, false⟩, ⟨.mk (guardA (.st 3) true ((o2 (eqlA ⟨(.struct [(0, 25), (1, 3)]), 2, 16, [.int 9223372036854775807 0, .int 9223372036854775807 0], true, true⟩) (.st 1) (.st 0)))), [], false, false⟩, ⟨.mk (o3 pickA (.st 4) (.st 0) (.cst (.bool false))), [], false, false⟩, ⟨.mk (o1 moveA (.st 0)), [], false, false⟩, ⟨.mk (guardA (.st 0) true ((o1 (loadG 2) (.tr 3)))), [], false, false⟩, ⟨.mk (guardA (.st 1) true ((oCallF 16 [(.st 0)]))), [], false, true⟩, ⟨.mk (guardA (.st 2) true ((o2 (cmp ibeq) (.st 0) (.cst (.int 9223372036854775807 7))))), [], false, false⟩, ⟨.mk (o3 pickA (.st 3) (.st 0) (.cst (.bool false))), [], false, false⟩, ⟨.mk (o1 moveA (.st 0)), [], false, false⟩] [(2, 1), (8, 7)] [(2, 0)]
theorem kLaw_1_w : kLaw_1 mx = kLaw_1_k (CL mx) := by kernel_rfl
theorem kLaw_1_dr (r : Ex × St) (e : kNrm (obind (vhO (loadG 2 v1 h (kVH))) (ckX h fun a0 => obind (vhO (withX (kVH) (callA (CL mx) run 13 [a0] h))) (ckX h fun a1 => obind (vhO (loadG 2 v1 h (kVH))) (ckX h fun a2 => obind (vhO (withX (kVH) (callA (CL mx) run 14 [a2] h))) (ckX h fun a3 => obind (vhO (cmp ibeq a1 a3 h (kVH))) (ckX h fun a4 => obind (vhO (moveA a4 h (kVH))) (ckX h fun a5 => obind (vhO (guardC a5 true (fun κ => loadG 2 v3 h (κ)) h kVH)) (ckX h fun a6 => obind (vhO (guardC a5 true (fun κ => withX (κ) (callA (CL mx) run 15 [a6] h)) h kVH)) (ckX h fun a7 => obind (vhO (guardC a5 true (fun κ => bldA (placeOf (CL mx) [(0, 25), (1, 3)]) [.int 9223372036854775807 0, .int 9223372036854775807 0] [] h (κ)) h kVH)) (ckX h fun a8 => obind (vhO (guardC a5 true (fun κ => eqlA ⟨(.struct [(0, 25), (1, 3)]), 2, 16, [.int 9223372036854775807 0, .int 9223372036854775807 0], true, true⟩ a7 a8 h (κ)) h kVH)) (ckX h fun a9 => obind (vhO (pickA a5 a9 (.bool false) h (kVH))) (ckX h fun a10 => obind (vhO (moveA a10 h (kVH))) (ckX h fun a11 => obind (vhO (guardC a11 true (fun κ => loadG 2 v3 h (κ)) h kVH)) (ckX h fun a12 => obind (vhO (guardC a11 true (fun κ => withX (κ) (callA (CL mx) run 16 [a12] h)) h kVH)) (ckX h fun a13 => obind (vhO (guardC a11 true (fun κ => cmp ibeq a13 (.int 9223372036854775807 7) h (κ)) h kVH)) (ckX h fun a14 => obind (vhO (pickA a11 a14 (.bool false) h (kVH))) (ckX h fun a15 => obind (vhO (moveA a15 h (kVH))) (ckX h fun a16 => some (.st (kLaw_T v0 v1 a16 v3 v5 v9) h))))))))))))))))))) = some r) : kx (CL mx) run lp (kLaw_1 mx) ⟨kLaw_T v0 v1 v2 v3 v5 v9, h⟩ = some r := by rw [kLaw_1_w]; exact kdraw_still (by rfl) (by rfl) e
theorem kLaw_2_eq : kc (CL mx) run lp (kLaw_2 mx) ⟨kLaw_T v0 v1 v2 v3 v5 v9, h⟩ κn κx = κx .ret ⟨kLaw_T v0 v1 v2 v3 v5 v9, h⟩ := by kernel_rfl
theorem kLaw_end : kcE (CL mx) [.tmp 2] ⟨kLaw_T v0 v1 v2 v3 v5 v9, h⟩ = some (.vh v2 h) := (kcE_eq _ _ _).trans (by kernel_rfl)
theorem kLaw_fk : fkAt (CL mx) 5 = some ⟨kLaw_0 mx, [0, 1, 2, 3, 5, 9], 27, [.tmp 2]⟩ := by kernel_rfl
end
theorem kLaw_run (mx : MT) (run : Run) (lp : Lp) (x0 : AV) (h : AH) : runF (CL mx) run lp 5 [x0] h = vhO (kc (CL mx) run lp (kLaw_0 mx) ⟨kLaw_T x0 .bot .bot .bot .bot .bot, h⟩ (kcE (CL mx) [.tmp 2]) (kcQ (CL mx) [.tmp 2])) := (run_kc (by kernel_rfl) (kLaw_fk mx) (by kernel_rfl)).trans (by kernel_rfl)
theorem kLaw_nat (mx : MT) (p : List Nat) : NatK (CL mx) (kAt p (kOf (CL mx) 5)) := kAt_nat p (kOf_nat (CL mx) 5)
def kLaw_s := And.intro @kLaw_0_eq (And.intro @kLaw_2_eq (@kLaw_end))
/- guipure/dns.Check -/
def kChk_T (v0 v1 v2 v4 v6 v7 v8 v9 v19 v28 : AV) : Tm := (.nd 7 (.nd 2 (.nd 1 (.lf 0 v0) (.lf 1 v1)) (.nd 4 (.lf 2 v2) (.nd 6 (.lf 4 v4) (.lf 6 v6)))) (.nd 9 (.nd 8 (.lf 7 v7) (.lf 8 v8)) (.nd 19 (.lf 9 v9) (.nd 28 (.lf 19 v19) (.lf 28 v28)))))
def kChk_0 (mx : MT) : K := kAt [] (kOf (CL mx) 13)
def kChk_1 (mx : MT) : K := kAt [1, 0] (kOf (CL mx) 13)
def kChk_2 (mx : MT) : K := kAt [1, 1] (kOf (CL mx) 13)
def kChk_3 (mx : MT) : K := kAt [1, 0, 1, 0, 0] (kOf (CL mx) 13)
section
set_option maxRecDepth 100000
variable (mx : MT) (run : Run) (lp : Lp) (κn : Kt) (κx : Ex → Kt) (h : AH) (v0 v1 v2 v4 v6 v7 v8 v9 v19 v28 : AV)
theorem kChk_0_eq : kc (CL mx) run lp (kChk_0 mx) ⟨kChk_T v0 v1 v2 v4 v6 v7 v8 v9 v19 v28, h⟩ κn κx = boxA 33 v0 h (fun a0 h => kc (CL mx) run lp (kChk_1 mx) ⟨kChk_T v0 a0 (.int 9223372036854775807 0) v4 v6 v7 v8 v9 v19 v28, h⟩ (fun s => kc (CL mx) run lp (kChk_2 mx) s κn κx) κx) := by kernel_rfl
theorem kChk_1_eq : kc (CL mx) run lp (kChk_1 mx) ⟨kChk_T v0 v1 v2 v4 v6 v7 v8 v9 v19 v28, h⟩ κn κx = moveP 0 v1 h (fun a0 h => load1 a0 h (fun a1 h => lenS a1 h (fun a2 h => kcR κn (kcO 0 κn κx) (lp (kChk_3 mx) ⟨kChk_T v0 v1 v2 v4 a1 a2 (.int 9223372036854775807 0) v9 v19 v28, h⟩)))) := by kernel_rfl
theorem kChk_2_eq : kc (CL mx) run lp (kChk_2 mx) ⟨kChk_T v0 v1 v2 v4 v6 v7 v8 v9 v19 v28, h⟩ κn κx = moveP 1 v1 h (fun a0 h => load1 a0 h (fun a1 h => cmp ilt a1 (.int 9223372036854775807 (-1)) h (fun a2 h => guardC a2 false (fun κ => moveP 1 v1 h κ) h (fun a3 h => guardC a2 false (fun κ => load1 a3 h κ) h (fun a4 h => guardC a2 false (fun κ => cmp igt a4 (.int 9223372036854775807 16383) h κ) h (fun a5 h => pickA a2 (.bool true) a5 h (fun a6 h => kcIf a6 (κx .ret ⟨kChk_T v0 v1 (.int 9223372036854775807 1) v4 v6 v7 v8 v9 v19 a6, h⟩) (κx .ret ⟨kChk_T v0 v1 (.int 9223372036854775807 0) v4 v6 v7 v8 v9 v19 a6, h⟩)))))))) := by kernel_rfl
theorem kChk_3_eq : kc (CL mx) run lp (kChk_3 mx) ⟨kChk_T v0 v1 v2 v4 v6 v7 v8 v9 v19 v28, h⟩ κn κx = cmp ilt v8 v7 h (fun a0 h => kcIf a0 (idxS 1 v6 v8 h (fun a1 h => load1 a1 h (fun a2 h => lenT a2 h (fun a3 h => cmp ilt a3 (.int 9223372036854775807 1) h (fun a4 h => guardC a4 false (fun κ => moveA a2 h κ) h (fun a5 h => guardC a4 false (fun κ => lenT a5 h κ) h (fun a6 h => guardC a4 false (fun κ => cmp igt a6 (.int 9223372036854775807 63) h κ) h (fun a7 h => pickA a4 (.bool true) a7 h (fun a8 h => kcIf a8 (κx .ret ⟨kChk_T v0 v1 (.int 9223372036854775807 2) a2 v6 v7 v8 a0 a8 v28, h⟩) (arith iadd v8 (.int 9223372036854775807 1) h (fun a9 h => κn ⟨kChk_T v0 v1 v2 a2 v6 v7 a9 a0 a8 v28, h⟩))))))))))) (κx (.exit 0) ⟨kChk_T v0 v1 v2 v4 v6 v7 v8 a0 v19 v28, h⟩)) := by kernel_rfl
theorem kChk_end : kcE (CL mx) [.tmp 2] ⟨kChk_T v0 v1 v2 v4 v6 v7 v8 v9 v19 v28, h⟩ = some (.vh v2 h) := (kcE_eq _ _ _).trans (by kernel_rfl)
theorem kChk_fk : fkAt (CL mx) 13 = some ⟨kChk_0 mx, [0, 1, 2, 4, 6, 7, 8, 9, 19, 28], 29, [.tmp 2]⟩ := by kernel_rfl
end
theorem kChk_run (mx : MT) (run : Run) (lp : Lp) (x0 : AV) (h : AH) : runF (CL mx) run lp 13 [x0] h = vhO (kc (CL mx) run lp (kChk_0 mx) ⟨kChk_T x0 .bot .bot .bot .bot .bot .bot .bot .bot .bot, h⟩ (kcE (CL mx) [.tmp 2]) (kcQ (CL mx) [.tmp 2])) := (run_kc (by kernel_rfl) (kChk_fk mx) (by kernel_rfl)).trans (by kernel_rfl)
theorem kChk_nat (mx : MT) (p : List Nat) : NatK (CL mx) (kAt p (kOf (CL mx) 13)) := kAt_nat p (kOf_nat (CL mx) 13)
def kChk_s := And.intro @kChk_0_eq (And.intro @kChk_1_eq (And.intro @kChk_2_eq (And.intro @kChk_3_eq (@kChk_end))))
/- guipure/guipurelaw29.wrong -/
def kWrg_T (v0 v1 v2 v4 v6 v7 v8 v9 v18 v27 : AV) : Tm := (.nd 7 (.nd 2 (.nd 1 (.lf 0 v0) (.lf 1 v1)) (.nd 4 (.lf 2 v2) (.nd 6 (.lf 4 v4) (.lf 6 v6)))) (.nd 9 (.nd 8 (.lf 7 v7) (.lf 8 v8)) (.nd 18 (.lf 9 v9) (.nd 27 (.lf 18 v18) (.lf 27 v27)))))
def kWrg_0 (mx : MT) : K := kAt [] (kOf (CL mx) 14)
def kWrg_1 (mx : MT) : K := kAt [1, 0] (kOf (CL mx) 14)
def kWrg_2 (mx : MT) : K := kAt [1, 1] (kOf (CL mx) 14)
def kWrg_3 (mx : MT) : K := kAt [1, 0, 1, 0, 0] (kOf (CL mx) 14)
section
set_option maxRecDepth 100000
variable (mx : MT) (run : Run) (lp : Lp) (κn : Kt) (κx : Ex → Kt) (h : AH) (v0 v1 v2 v4 v6 v7 v8 v9 v18 v27 : AV)
theorem kWrg_0_eq : kc (CL mx) run lp (kWrg_0 mx) ⟨kWrg_T v0 v1 v2 v4 v6 v7 v8 v9 v18 v27, h⟩ κn κx = boxA 33 v0 h (fun a0 h => kc (CL mx) run lp (kWrg_1 mx) ⟨kWrg_T v0 a0 (.int 9223372036854775807 0) v4 v6 v7 v8 v9 v18 v27, h⟩ (fun s => kc (CL mx) run lp (kWrg_2 mx) s κn κx) κx) := by kernel_rfl
theorem kWrg_1_eq : kc (CL mx) run lp (kWrg_1 mx) ⟨kWrg_T v0 v1 v2 v4 v6 v7 v8 v9 v18 v27, h⟩ κn κx = moveP 0 v1 h (fun a0 h => load1 a0 h (fun a1 h => lenS a1 h (fun a2 h => kcR κn (kcO 0 κn κx) (lp (kWrg_3 mx) ⟨kWrg_T v0 v1 v2 v4 a1 a2 (.int 9223372036854775807 0) v9 v18 v27, h⟩)))) := by kernel_rfl
theorem kWrg_2_eq : kc (CL mx) run lp (kWrg_2 mx) ⟨kWrg_T v0 v1 v2 v4 v6 v7 v8 v9 v18 v27, h⟩ κn κx = moveP 1 v1 h (fun a0 h => load1 a0 h (fun a1 h => cmp ilt a1 (.int 9223372036854775807 (-1)) h (fun a2 h => guardC a2 false (fun κ => moveP 1 v1 h κ) h (fun a3 h => guardC a2 false (fun κ => load1 a3 h κ) h (fun a4 h => guardC a2 false (fun κ => cmp ige a4 (.int 9223372036854775807 16384) h κ) h (fun a5 h => pickA a2 (.bool true) a5 h (fun a6 h => kcIf a6 (κx .ret ⟨kWrg_T v0 v1 (.int 9223372036854775807 1) v4 v6 v7 v8 v9 v18 a6, h⟩) (κx .ret ⟨kWrg_T v0 v1 (.int 9223372036854775807 0) v4 v6 v7 v8 v9 v18 a6, h⟩)))))))) := by kernel_rfl
theorem kWrg_3_eq : kc (CL mx) run lp (kWrg_3 mx) ⟨kWrg_T v0 v1 v2 v4 v6 v7 v8 v9 v18 v27, h⟩ κn κx = cmp ilt v8 v7 h (fun a0 h => kcIf a0 (idxS 1 v6 v8 h (fun a1 h => load1 a1 h (fun a2 h => strCmp eqS a2 (.str []) h (fun a3 h => guardC a3 false (fun κ => moveA a2 h κ) h (fun a4 h => guardC a3 false (fun κ => lenT a4 h κ) h (fun a5 h => guardC a3 false (fun κ => cmp igt a5 (.int 9223372036854775807 63) h κ) h (fun a6 h => pickA a3 (.bool true) a6 h (fun a7 h => kcIf a7 (κx .ret ⟨kWrg_T v0 v1 (.int 9223372036854775807 2) a2 v6 v7 v8 a0 a7 v27, h⟩) (arith iadd v8 (.int 9223372036854775807 1) h (fun a8 h => κn ⟨kWrg_T v0 v1 v2 a2 v6 v7 a8 a0 a7 v27, h⟩)))))))))) (κx (.exit 0) ⟨kWrg_T v0 v1 v2 v4 v6 v7 v8 a0 v18 v27, h⟩)) := by kernel_rfl
theorem kWrg_end : kcE (CL mx) [.tmp 2] ⟨kWrg_T v0 v1 v2 v4 v6 v7 v8 v9 v18 v27, h⟩ = some (.vh v2 h) := (kcE_eq _ _ _).trans (by kernel_rfl)
theorem kWrg_fk : fkAt (CL mx) 14 = some ⟨kWrg_0 mx, [0, 1, 2, 4, 6, 7, 8, 9, 18, 27], 28, [.tmp 2]⟩ := by kernel_rfl
end
theorem kWrg_run (mx : MT) (run : Run) (lp : Lp) (x0 : AV) (h : AH) : runF (CL mx) run lp 14 [x0] h = vhO (kc (CL mx) run lp (kWrg_0 mx) ⟨kWrg_T x0 .bot .bot .bot .bot .bot .bot .bot .bot .bot, h⟩ (kcE (CL mx) [.tmp 2]) (kcQ (CL mx) [.tmp 2])) := (run_kc (by kernel_rfl) (kWrg_fk mx) (by kernel_rfl)).trans (by kernel_rfl)
theorem kWrg_nat (mx : MT) (p : List Nat) : NatK (CL mx) (kAt p (kOf (CL mx) 14)) := kAt_nat p (kOf_nat (CL mx) 14)
def kWrg_s := And.intro @kWrg_0_eq (And.intro @kWrg_1_eq (And.intro @kWrg_2_eq (And.intro @kWrg_3_eq (@kWrg_end))))
end
theorem cl_ok {mx : Int} : CxOk Tryz.prog (CL ⟨mx, tolT⟩) := CxOk.told c1_ok (show MemosOk _ _ _ from ⟨⟨List.forall_mem_cons.2 ⟨as_head c1_ok, fun _ h => nomatch h⟩, List.forall_mem_cons.2 ⟨asm34 c1_ok, fun _ h => nomatch h⟩⟩, List.forall_mem_cons.2 ⟨asm58 c1_ok, fun _ h => nomatch h⟩, List.forall_mem_cons.2 ⟨asm50 c1_ok, fun _ h => nomatch h⟩⟩)
def badL (x : List Nat) : Bool := decide (x.length < 1) || decide (63 < x.length)
/-- What is wrong with a name. -/
def nameE (l : List (List Nat)) (p : Int) : Int := if l.any badL then 2 else if p < -1 ∨ 16383 < p then 1 else 0
section
variable {mx : MT} {Q : Option Rs → Prop} {κn : Kt} {κx : Ex → Kt} {l : List (List Nat)} {sl : AV}
theorem chk_loop (hs : PureS sl (strsA l)) (hl : l.length ≤ 60) (v0 v1 v4 v28 : AV) (h : AH) : ∀ (r p : List (List Nat)) (f : Nat) (v2 v4 v9 v19 : AV), l = p ++ r → r.length + 1 ≤ f → p.any badL = false →
    (l.any badL = false → ∀ v4 v9 v19, Q (κx (.exit 0) ⟨kChk_T v0 v1 v2 v4 sl (.int 9223372036854775807 (l.length : Int)) (.int 9223372036854775807 (l.length : Int)) v9 v19 v28, h⟩)) →
    (l.any badL = true → ∀ v4 v8 v9 v19, Q (κx .ret ⟨kChk_T v0 v1 (.int 9223372036854775807 2) v4 sl (.int 9223372036854775807 (l.length : Int)) v8 v9 v19 v28, h⟩)) →
    Q (kcR κn κx ((rl (CL mx) f).lp (kChk_3 mx) ⟨kChk_T v0 v1 v2 v4 sl (.int 9223372036854775807 (l.length : Int)) (.int 9223372036854775807 (p.length : Int)) v9 v19 v28, h⟩)) := by
  intro r
  induction r with
  | nil =>
    intro p f v2 v4 v9 v19 hp hf hb hk hr
    obtain ⟨f, rfl⟩ := fuel hf
    obtain rfl : l = p := by simpa using hp
    refine wLoop (kChk_nat mx _) ?_
    simp only [sy, List.length_append, Nat.reduceAdd, Nat.reduceMul, Nat.reduceSub, Nat.reduceLeDiff, Nat.reduceEqDiff, Nat.reduceLT, reduceIte, kChk_s, Int.lt_irrefl]
    exact hk hb _ _ _
  | cons x r ih =>
    intro p f v2 v4 v9 v19 hp hf hb hk hr
    obtain ⟨f, rfl⟩ := fuel hf
    have hlen : l.length = p.length + (r.length + 1) := by rw [hp]; simp
    have hx : l[p.length]? = some x := by rw [hp]; simp
    obtain ⟨q, _, q2, q3⟩ := (hs.at h).idx (strsA_get hx)
    have e1 : decide ((p.length : Int) < (l.length : Int)) = true := by rw [decide_eq_true_iff]; omega
    have e4 : wrapA 9223372036854775807 ((p.length : Int) + 1) = (((p ++ [x]).length : Nat) : Int) := by rw [wrapA_i64 (by omega) (by omega)]; simp
    refine wLoop (kChk_nat mx _) ?_
    have go : badL x = false → Q (kcR κn κx ((rl (CL mx) (f + r.length + 1)).lp (kChk_3 mx) ⟨kChk_T v0 v1 v2 (.str x) sl (.int 9223372036854775807 (l.length : Int)) (.int 9223372036854775807 ((p ++ [x]).length : Int)) (.bool true) (.bool false) v28, h⟩)) := fun hx =>
      ih (p ++ [x]) (f + r.length + 1) v2 _ _ _ (by rw [hp]; simp) (by omega) (by simp [hb, hx]) hk hr
    by_cases c1 : (x.length : Int) < 1
    · have hbad : l.any badL = true := by rw [hp]; simp [badL, show x.length < 1 by omega]
      simp only [sy, List.length_append, Nat.reduceAdd, Nat.reduceMul, Nat.reduceSub, Nat.reduceLeDiff, Nat.reduceEqDiff, Nat.reduceLT, reduceIte, kChk_s, e1, q2, q3, decide_eq_true c1]
      exact hr hbad _ _ _ _
    · by_cases c2 : (63 : Int) < (x.length : Int)
      · have hbad : l.any badL = true := by rw [hp]; simp [badL, show 63 < x.length by omega]
        simp only [sy, List.length_append, Nat.reduceAdd, Nat.reduceMul, Nat.reduceSub, Nat.reduceLeDiff, Nat.reduceEqDiff, Nat.reduceLT, reduceIte, kChk_s, e1, q2, q3, decide_eq_false c1, decide_eq_true c2]
        exact hr hbad _ _ _ _
      · simp only [sy, List.length_append, Nat.reduceAdd, Nat.reduceMul, Nat.reduceSub, Nat.reduceLeDiff, Nat.reduceEqDiff, Nat.reduceLT, reduceIte, kChk_s, e1, q2, q3, decide_eq_false c1, decide_eq_false c2]
        rw [e4]
        exact go (by unfold badL; rw [decide_eq_false (by omega), decide_eq_false (by omega)]; rfl)
theorem chk_run (hs : PureS sl (strsA l)) (hl : l.length ≤ 60) (p : Int) (f : Nat) (hf : l.length + 3 ≤ f) (h : AH) : Gives (fun r _ => r = .int 9223372036854775807 (nameE l p)) ((rl (CL mx) f).run 13 [.agg [sl, .int 9223372036854775807 p]] h) := by
  obtain ⟨f, rfl⟩ := fuel hf
  refine Gives.runs (n := f + l.length + 2) (kChk_run mx _ _ _ _) ?_
  have hL := hs.len
  rw [strsA_len] at hL
  simp only [sy, List.length_append, Nat.reduceAdd, Nat.reduceMul, Nat.reduceSub, Nat.reduceLeDiff, Nat.reduceEqDiff, Nat.reduceLT, reduceIte, kChk_s, hL]
  refine chk_loop hs hl _ _ .bot _ _ l [] _ _ _ _ _ (by simp) (by omega) (by simp) (fun hb v4 v9 v19 => ?_) (fun hb v4 v8 v9 v19 => ?_)
  · unfold nameE
    rw [hb]
    by_cases c1 : p < -1
    · simp only [sy, List.length_append, Nat.reduceAdd, Nat.reduceMul, Nat.reduceSub, Nat.reduceLeDiff, Nat.reduceEqDiff, Nat.reduceLT, reduceIte, kChk_s, decide_eq_true c1]
      exact Ends.mk (by simp [c1])
    · by_cases c2 : (16383 : Int) < p
      · simp only [sy, List.length_append, Nat.reduceAdd, Nat.reduceMul, Nat.reduceSub, Nat.reduceLeDiff, Nat.reduceEqDiff, Nat.reduceLT, reduceIte, kChk_s, decide_eq_false c1, decide_eq_true c2]
        exact Ends.mk (by simp [c1, c2])
      · simp only [sy, List.length_append, Nat.reduceAdd, Nat.reduceMul, Nat.reduceSub, Nat.reduceLeDiff, Nat.reduceEqDiff, Nat.reduceLT, reduceIte, kChk_s, decide_eq_false c1, decide_eq_false c2]
        exact Ends.mk (by simp [c1, c2])
  · simp only [sy, List.length_append, Nat.reduceAdd, Nat.reduceMul, Nat.reduceSub, Nat.reduceLeDiff, Nat.reduceEqDiff, Nat.reduceLT, reduceIte, kChk_s]
    exact Ends.mk (by unfold nameE; rw [hb]; rfl)
theorem wrg_loop (hs : PureS sl (strsA l)) (hl : l.length ≤ 60) (v0 v1 v27 : AV) (h : AH) : ∀ (r p : List (List Nat)) (f : Nat) (v2 v4 v9 v18 : AV), l = p ++ r → r.length + 1 ≤ f → p.any badL = false →
    (l.any badL = false → ∀ v4 v9 v18, Q (κx (.exit 0) ⟨kWrg_T v0 v1 v2 v4 sl (.int 9223372036854775807 (l.length : Int)) (.int 9223372036854775807 (l.length : Int)) v9 v18 v27, h⟩)) →
    (l.any badL = true → ∀ v4 v8 v9 v18, Q (κx .ret ⟨kWrg_T v0 v1 (.int 9223372036854775807 2) v4 sl (.int 9223372036854775807 (l.length : Int)) v8 v9 v18 v27, h⟩)) →
    Q (kcR κn κx ((rl (CL mx) f).lp (kWrg_3 mx) ⟨kWrg_T v0 v1 v2 v4 sl (.int 9223372036854775807 (l.length : Int)) (.int 9223372036854775807 (p.length : Int)) v9 v18 v27, h⟩)) := by
  intro r
  induction r with
  | nil =>
    intro p f v2 v4 v9 v18 hp hf hb hk hr
    obtain ⟨f, rfl⟩ := fuel hf
    obtain rfl : l = p := by simpa using hp
    refine wLoop (kWrg_nat mx _) ?_
    simp only [sy, List.length_append, Nat.reduceAdd, Nat.reduceMul, Nat.reduceSub, Nat.reduceLeDiff, Nat.reduceEqDiff, Nat.reduceLT, reduceIte, kWrg_s, Int.lt_irrefl]
    exact hk hb _ _ _
  | cons x r ih =>
    intro p f v2 v4 v9 v18 hp hf hb hk hr
    obtain ⟨f, rfl⟩ := fuel hf
    have hlen : l.length = p.length + (r.length + 1) := by rw [hp]; simp
    have hx : l[p.length]? = some x := by rw [hp]; simp
    obtain ⟨q, _, q2, q3⟩ := (hs.at h).idx (strsA_get hx)
    have e1 : decide ((p.length : Int) < (l.length : Int)) = true := by rw [decide_eq_true_iff]; omega
    have e4 : wrapA 9223372036854775807 ((p.length : Int) + 1) = (((p ++ [x]).length : Nat) : Int) := by rw [wrapA_i64 (by omega) (by omega)]; simp
    refine wLoop (kWrg_nat mx _) ?_
    by_cases c1 : x = []
    · have hbad : l.any badL = true := by rw [hp]; simp [badL, c1]
      simp only [sy, List.length_append, Nat.reduceAdd, Nat.reduceMul, Nat.reduceSub, Nat.reduceLeDiff, Nat.reduceEqDiff, Nat.reduceLT, reduceIte, kWrg_s, e1, q2, q3, eqS_nil, decide_eq_true c1]
      exact hr hbad _ _ _ _
    · have c0 : ¬ x.length < 1 := by
        intro c
        exact c1 (List.length_eq_zero_iff.1 (by omega))
      by_cases c2 : (63 : Int) < (x.length : Int)
      · have hbad : l.any badL = true := by rw [hp]; simp [badL, show 63 < x.length by omega]
        simp only [sy, List.length_append, Nat.reduceAdd, Nat.reduceMul, Nat.reduceSub, Nat.reduceLeDiff, Nat.reduceEqDiff, Nat.reduceLT, reduceIte, kWrg_s, e1, q2, q3, eqS_nil, decide_eq_false c1, decide_eq_true c2]
        exact hr hbad _ _ _ _
      · simp only [sy, List.length_append, Nat.reduceAdd, Nat.reduceMul, Nat.reduceSub, Nat.reduceLeDiff, Nat.reduceEqDiff, Nat.reduceLT, reduceIte, kWrg_s, e1, q2, q3, eqS_nil, decide_eq_false c1, decide_eq_false c2]
        rw [e4]
        exact ih (p ++ [x]) (f + r.length + 1) v2 _ _ _ (by rw [hp]; simp) (by omega) (by rw [List.any_append, hb]; show (false || (badL x || false)) = false; unfold badL; rw [decide_eq_false (by omega), decide_eq_false (by omega)]; rfl) hk hr
theorem wrg_run (hs : PureS sl (strsA l)) (hl : l.length ≤ 60) (p : Int) (f : Nat) (hf : l.length + 3 ≤ f) (h : AH) : Gives (fun r _ => r = .int 9223372036854775807 (nameE l p)) ((rl (CL mx) f).run 14 [.agg [sl, .int 9223372036854775807 p]] h) := by
  obtain ⟨f, rfl⟩ := fuel hf
  refine Gives.runs (n := f + l.length + 2) (kWrg_run mx _ _ _ _) ?_
  have hL := hs.len
  rw [strsA_len] at hL
  simp only [sy, List.length_append, Nat.reduceAdd, Nat.reduceMul, Nat.reduceSub, Nat.reduceLeDiff, Nat.reduceEqDiff, Nat.reduceLT, reduceIte, kWrg_s, hL]
  refine wrg_loop hs hl _ _ _ _ l [] _ _ _ _ _ (by simp) (by omega) (by simp) (fun hb v4 v9 v18 => ?_) (fun hb v4 v8 v9 v18 => ?_)
  · unfold nameE
    rw [hb]
    by_cases c1 : p < -1
    · simp only [sy, List.length_append, Nat.reduceAdd, Nat.reduceMul, Nat.reduceSub, Nat.reduceLeDiff, Nat.reduceEqDiff, Nat.reduceLT, reduceIte, kWrg_s, decide_eq_true c1]
      exact Ends.mk (by simp [c1])
    · by_cases c2 : (16383 : Int) < p
      · have c3 : (16384 : Int) ≤ p := by omega
        simp only [sy, List.length_append, Nat.reduceAdd, Nat.reduceMul, Nat.reduceSub, Nat.reduceLeDiff, Nat.reduceEqDiff, Nat.reduceLT, reduceIte, kWrg_s, decide_eq_false c1, decide_eq_true c3]
        exact Ends.mk (by simp [c1, c2])
      · have c3 : ¬ (16384 : Int) ≤ p := by omega
        simp only [sy, List.length_append, Nat.reduceAdd, Nat.reduceMul, Nat.reduceSub, Nat.reduceLeDiff, Nat.reduceEqDiff, Nat.reduceLT, reduceIte, kWrg_s, decide_eq_false c1, decide_eq_false c3]
        exact Ends.mk (by simp [c1, c2])
  · simp only [sy, List.length_append, Nat.reduceAdd, Nat.reduceMul, Nat.reduceSub, Nat.reduceLeDiff, Nat.reduceEqDiff, Nat.reduceLT, reduceIte, kWrg_s]
    exact Ends.mk (by unfold nameE; rw [hb]; rfl)
/-- A call in a heap of its own, whose answer bears no name. -/
theorem pure_call {f : Nat} {args : List AV} {n : Nat} {v : AV} (g : Gives (fun r _ => r = v) ((rl (CL mx) n).run f args [])) (hp : ltL 0 args = true) (hv : v.lt 0 = true) (h : AH) (hx : (CL mx).ext f = none := by kernel_rfl) (hm : (CL mx).memo f args = none := by kernel_rfl) (ho : (CL mx).own f = false := by kernel_rfl) :
    callA (CL mx) (rl (CL mx) n).run f args h = some (v, h) := by
  obtain ⟨r, h1, e, rfl⟩ := g
  exact callA_pure hx hp hm e hv ho
theorem law_run {mx : Int} {l : List (List Nat)} {sl : AV} (hs : PureS sl (strsA l)) (p : Int) : ∃ h', (rl (CL ⟨mx, tolT⟩) 70).run 5 [.agg [sl, .int 9223372036854775807 p]] [] = some (.bool true, h') := by
  have g : Gives (fun r _ => r = .bool true) ((rl (CL ⟨mx, tolT⟩) 70).run 5 [.agg [sl, .int 9223372036854775807 p]] []) := by
    refine Gives.runs (n := 69) (kLaw_run ⟨mx, tolT⟩ _ _ _ _) ?_
    have hL := hs.len
    rw [strsA_len] at hL
    have hhead := fun h => callA_memo (C := CL ⟨mx, tolT⟩) (run := (rl (CL ⟨mx, tolT⟩) 69).run) (h := h) (f := 6) (args := []) (v := .bool true) (by kernel_rfl) (by kernel_rfl) (by kernel_rfl)
    have hspec := fun h => callA_memo (C := CL ⟨mx, tolT⟩) (run := (rl (CL ⟨mx, tolT⟩) 69).run) (h := h) (f := 12) (args := []) (v := asp34.2) (by kernel_rfl) (by kernel_rfl) (by kernel_rfl)
    have hchk := fun h => callA_memo (C := CL ⟨mx, tolT⟩) (run := (rl (CL ⟨mx, tolT⟩) 69).run) (h := h) (f := 15) (args := [asp34.2]) (v := .agg [.int 9223372036854775807 0, .int 9223372036854775807 0]) (by kernel_rfl) (by kernel_rfl) (by kernel_rfl)
    have hdeep := fun h => callA_memo (C := CL ⟨mx, tolT⟩) (run := (rl (CL ⟨mx, tolT⟩) 69).run) (h := h) (f := 16) (args := [asp34.2]) (v := .int 9223372036854775807 7) (by kernel_rfl) (by kernel_rfl) (by kernel_rfl)
    obtain ⟨a, b, hab, pa, pb, la, lb⟩ : ∃ a b, asp34.2 = .agg [a, b] ∧ a.plain = true ∧ b.plain = true ∧ a.lt 2 = true ∧ b.lt 2 = true := ⟨_, _, rfl, by kernel_rfl, by kernel_rfl, by kernel_rfl, by kernel_rfl⟩
    rw [hab] at hspec hchk hdeep
    have ps := hs.at []
    have psp := ps.plain
    simp only [sy, List.length_append, Nat.reduceAdd, Nat.reduceMul, Nat.reduceSub, Nat.reduceLeDiff, Nat.reduceEqDiff, Nat.reduceLT, reduceIte, kLaw_s, hhead, hL, hspec, pa, pb, psp]
    refine wIf (fun _ => Ends.mk rfl) fun hl => ?_
    have hl : l.length ≤ 60 := by omega
    have h1 := fun h => pure_call (mx := ⟨mx, tolT⟩) (f := 13) (chk_run hs hl p 69 (by omega) []) (by rw [ltL_cons, lt_agg, ltL_cons, hs.lt]; rfl) (by rfl) h
    have h2 := fun h => pure_call (mx := ⟨mx, tolT⟩) (f := 14) (wrg_run hs hl p 69 (by omega) []) (by rw [ltL_cons, lt_agg, ltL_cons, hs.lt]; rfl) (by rfl) h
    have hbld := fun h κ => bldA_of (h := h) (κ := κ) (place := placeOf (CL ⟨mx, tolT⟩) [(0, 25), (1, 3)]) (z := [.int 9223372036854775807 0, .int 9223372036854775807 0]) (ps := []) (cs := [.int 9223372036854775807 0, .int 9223372036854775807 0]) (by kernel_rfl)
    have heq : ∀ (h : AH) (κ : Ka), eqlA ⟨(.struct [(0, 25), (1, 3)]), 2, 16, [.int 9223372036854775807 0, .int 9223372036854775807 0], true, true⟩ (.agg [.int 9223372036854775807 0, .int 9223372036854775807 0]) (.agg [.int 9223372036854775807 0, .int 9223372036854775807 0]) h κ = κ (.bool true) h := fun h κ => (rfl)
    refine wDraw (kLaw_nat ⟨mx, tolT⟩ _) (kLaw_1_dr ⟨mx, tolT⟩ _ _ _ _ _ _ _ _ _ ?rs0 ?es0) ?_
    case es0 =>
      simp only [sy, List.length_append, Nat.reduceAdd, Nat.reduceMul, Nat.reduceSub, Nat.reduceLeDiff, Nat.reduceEqDiff, Nat.reduceLT, reduceIte, flen_eq, h1, h2, hchk, hdeep, hbld, heq, ltL_cons, ltL_nil, hs.lt, la, lb, kNrm_st]
      rfl
    simp only [sy, List.length_append, Nat.reduceAdd, Nat.reduceMul, Nat.reduceSub, Nat.reduceLeDiff, Nat.reduceEqDiff, Nat.reduceLT, reduceIte, kLaw_s]
    exact Ends.mk rfl
  obtain ⟨r, h', e, rfl⟩ := g
  exact ⟨h', e⟩
end
/-- Texts that came in. -/
theorem strs_open {n : Nat} : ∀ {len : Nat} {cs : List AV}, TyL (TyC Tryz.prog n) (List.replicate len 9) cs → ∃ L : List (List Nat), cs = strsA L ∧ L.length = len
  | 0, cs, h => ⟨[], by rw [show cs = [] from h]; rfl, rfl⟩
  | len + 1, cs, h => by
    rw [List.replicate_succ] at h
    obtain ⟨a, r, rfl, h1, h2⟩ := h
    obtain ⟨L, rfl, g2⟩ := strs_open h2
    obtain ⟨k, rfl, _⟩ := TyC.string_ Tryz.underlying9 h1
    exact ⟨k :: L, rfl, by simp [g2]⟩
theorem strs_arg {n : Nat} {a : AV} (t : TyC Tryz.prog n 24 [a]) : ∃ l : List (List Nat), PureS a (strsA l) := by
  rcases TyC.slice_ Tryz.underlying24 t with e | e | ⟨m, cs, len, e, g1, g2, g3⟩
  · cases e; exact ⟨[], .inl ⟨rfl, .inl rfl⟩⟩
  · cases e; exact ⟨[], .inl ⟨rfl, .inr rfl⟩⟩
  · cases e
    obtain ⟨L, rfl, q2⟩ := strs_open g3
    exact ⟨L, .inr (by rw [strsA_len, q2])⟩
set_option maxRecDepth 100000 in
theorem DnsSpec_calls {W : World} {args : Array Value} {a0 : AV} {n0 : Nat} {mx : Int} (I : Inv (C0 mx) (· < W.heap.size) W ρ0 []) (hv : VL (· < W.heap.size) W [a0] ρ0 args.toList)
    (t0 : TyV Tryz.prog n0 32 a0) : Calls Tryz.prog 5 args W fun e w' => e = .returned (.bool true) ∧ RowKit.Below W.heap.size W w' := by
  obtain ⟨al, rfl, h⟩ := TyV.agg Tryz.underlying32 t0
  obtain ⟨m, h⟩ := TyC.struct_ Tryz.underlying32 h
  have h : TyL (TyC Tryz.prog m) [24, 3] al := h
  obtain ⟨b0, r0, rfl, h0, b1, r1, rfl, h1, hz⟩ := h
  rw [show r1 = [] from hz] at hv
  obtain ⟨sl, rfl⟩ := TyC.one (by kernel_rfl) h0
  obtain ⟨p, rfl, _⟩ := TyC.int_ Tryz.underlying3 h1
  obtain ⟨l, hl⟩ := strs_arg h0
  obtain ⟨h', e⟩ := law_run (mx := mx) hl p
  exact calls_of_run (runN_ok cl_ok 70 _ _ _ _ _ e) ((I.of_gl (opened_gl _ _ _)).of_gl (told_gl _ _)) hv
end Go.Proofs.YtgjoogfoeomcdaaGreatDoor
