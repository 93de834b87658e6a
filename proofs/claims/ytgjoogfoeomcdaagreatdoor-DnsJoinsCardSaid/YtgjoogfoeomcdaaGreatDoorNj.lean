/- The law DnsJoins: its run. The functions' code is printed by a program. -/
import Derived.Test.YtgjoogfoeomcdaaGreatDoorMF
import Derived.Test.YtgjoogfoeomcdaaGreatDoorAs
import Derived.Test.YtgjoogfoeomcdaaGreatDoorME
namespace Go.Proofs.YtgjoogfoeomcdaaGreatDoor
set_option linter.unusedSimpArgs false
set_option linter.unusedVariables false
set_option linter.unnecessarySimpa false
set_option linter.defProp false
noncomputable section
/-- The context: the head is told ahead, all other calls run where they are called. -/
def CL (mx : Int) : Cx := ((C1 mx).told (.lf 6 [([], .bool true)])).ownd fun f => not (Nat.beq f 6)
/- guipure/guipurelaw29.DnsJoins -/
def kLaw_T (v0 v2 v3 v5 v6 v7 v9 v11 v14 v15 v16 v17 v18 v23 v34 v37 v38 v39 v40 v53 : AV) : Tm := (.nd 16 (.nd 7 (.nd 3 (.nd 2 (.lf 0 v0) (.lf 2 v2)) (.nd 5 (.lf 3 v3) (.nd 6 (.lf 5 v5) (.lf 6 v6)))) (.nd 11 (.nd 9 (.lf 7 v7) (.lf 9 v9)) (.nd 14 (.lf 11 v11) (.nd 15 (.lf 14 v14) (.lf 15 v15))))) (.nd 37 (.nd 18 (.nd 17 (.lf 16 v16) (.lf 17 v17)) (.nd 23 (.lf 18 v18) (.nd 34 (.lf 23 v23) (.lf 34 v34)))) (.nd 39 (.nd 38 (.lf 37 v37) (.lf 38 v38)) (.nd 40 (.lf 39 v39) (.nd 53 (.lf 40 v40) (.lf 53 v53))))))
def kLaw_0 (mx : Int) : K := kAt [] (kOf (CL mx) 4)
def kLaw_1 (mx : Int) : K := kAt [1, 1, 1, 1, 0] (kOf (CL mx) 4)
def kLaw_2 (mx : Int) : K := kAt [1, 1, 1, 1, 1] (kOf (CL mx) 4)
def kLaw_3 (mx : Int) : K := kAt [1, 1, 1, 1, 0, 1, 0, 0] (kOf (CL mx) 4)
def kLaw_4 (mx : Int) : K := kAt [1, 1, 1, 1, 1, 1, 1, 1, 0] (kOf (CL mx) 4)
def kLaw_5 (mx : Int) : K := kAt [1, 1, 1, 1, 1, 1, 1, 1, 1] (kOf (CL mx) 4)
def kLaw_6 (mx : Int) : K := kAt [1, 1, 1, 1, 1, 1, 1, 1, 0, 1, 0, 0] (kOf (CL mx) 4)
section
set_option maxRecDepth 100000
variable (mx : Int) (run : Run) (lp : Lp) (κn : Kt) (κx : Ex → Kt) (h : AH) (v0 v2 v3 v5 v6 v7 v9 v11 v14 v15 v16 v17 v18 v23 v34 v37 v38 v39 v40 v53 : AV)
theorem kLaw_0_eq : kc (CL mx) run lp (kLaw_0 mx) ⟨kLaw_T v0 v2 v3 v5 v6 v7 v9 v11 v14 v15 v16 v17 v18 v23 v34 v37 v38 v39 v40 v53, h⟩ κn κx = withX (fun a0 h => notA a0 h (fun a1 h => kcIf a1 (κx .ret ⟨kLaw_T v0 (.bool false) v3 v5 v6 v7 v9 a1 v14 v15 v16 v17 v18 v23 v34 v37 v38 v39 v40 v53, h⟩) (lenS v0 h (fun a2 h => cmp igt a2 (.int 9223372036854775807 50) h (fun a3 h => kcIf a3 (κx .ret ⟨kLaw_T v0 (.bool true) v3 v5 v6 v7 v9 a1 a3 v15 v16 v17 v18 v23 v34 v37 v38 v39 v40 v53, h⟩) (kc (CL mx) run lp (kLaw_1 mx) ⟨kLaw_T v0 (.bool false) (.int 9223372036854775807 0) v5 v6 v7 v9 a1 a3 v15 v16 v17 v18 v23 v34 v37 v38 v39 v40 v53, h⟩ (fun s => kc (CL mx) run lp (kLaw_2 mx) s κn κx) κx)))))) (callA (CL mx) run 6 [] h) := by kernel_rfl
theorem kLaw_1_eq : kc (CL mx) run lp (kLaw_1 mx) ⟨kLaw_T v0 v2 v3 v5 v6 v7 v9 v11 v14 v15 v16 v17 v18 v23 v34 v37 v38 v39 v40 v53, h⟩ κn κx = lenS v0 h (fun a0 h => kcR κn (kcO 0 κn κx) (lp (kLaw_3 mx) ⟨kLaw_T v0 v2 v3 v5 v6 v7 v9 v11 v14 v0 a0 (.int 9223372036854775807 0) v18 v23 v34 v37 v38 v39 v40 v53, h⟩)) := by kernel_rfl
theorem kLaw_2_eq : kc (CL mx) run lp (kLaw_2 mx) ⟨kLaw_T v0 v2 v3 v5 v6 v7 v9 v11 v14 v15 v16 v17 v18 v23 v34 v37 v38 v39 v40 v53, h⟩ κn κx = withX (fun a0 h => lenS v0 h (fun a1 h => cmp ibeq a1 (.int 9223372036854775807 0) h (fun a2 h => kcIf a2 (strCmp eqS a0 (.str [46]) h (fun a3 h => κx .ret ⟨kLaw_T v0 a3 v3 v5 a0 v7 v9 v11 v14 v15 v16 v17 v18 v23 a2 v37 v38 v39 v40 v53, h⟩)) (kc (CL mx) run lp (kLaw_4 mx) ⟨kLaw_T v0 v2 v3 v5 a0 (.int 9223372036854775807 0) v9 v11 v14 v15 v16 v17 v18 v23 a2 v37 v38 v39 v40 v53, h⟩ (fun s => kc (CL mx) run lp (kLaw_5 mx) s κn κx) κx)))) (callA (CL mx) run 11 [v0] h) := by kernel_rfl
theorem kLaw_3_eq : kc (CL mx) run lp (kLaw_3 mx) ⟨kLaw_T v0 v2 v3 v5 v6 v7 v9 v11 v14 v15 v16 v17 v18 v23 v34 v37 v38 v39 v40 v53, h⟩ κn κx = cmp ilt v17 v16 h (fun a0 h => kcIf a0 (idxS 1 v15 v17 h (fun a1 h => load1 a1 h (fun a2 h => lenT a2 h (fun a3 h => cmp igt a3 (.int 9223372036854775807 100) h (fun a4 h => kcIf a4 (κx .ret ⟨kLaw_T v0 (.bool true) v3 a2 v6 v7 v9 v11 v14 v15 v16 v17 a0 a4 v34 v37 v38 v39 v40 v53, h⟩) (lenT a2 h (fun a5 h => arith iadd a5 (.int 9223372036854775807 1) h (fun a6 h => arith iadd v3 a6 h (fun a7 h => arith iadd v17 (.int 9223372036854775807 1) h (fun a8 h => κn ⟨kLaw_T v0 v2 a7 a2 v6 v7 v9 v11 v14 v15 v16 a8 a0 a4 v34 v37 v38 v39 v40 v53, h⟩)))))))))) (κx (.exit 0) ⟨kLaw_T v0 v2 v3 v5 v6 v7 v9 v11 v14 v15 v16 v17 a0 v23 v34 v37 v38 v39 v40 v53, h⟩)) := by kernel_rfl
theorem kLaw_4_eq : kc (CL mx) run lp (kLaw_4 mx) ⟨kLaw_T v0 v2 v3 v5 v6 v7 v9 v11 v14 v15 v16 v17 v18 v23 v34 v37 v38 v39 v40 v53, h⟩ κn κx = lenS v0 h (fun a0 h => kcR κn (kcO 2 κn κx) (lp (kLaw_6 mx) ⟨kLaw_T v0 v2 v3 v5 v6 v7 v9 v11 v14 v15 v16 v17 v18 v23 v34 v0 a0 (.int 9223372036854775807 0) v40 v53, h⟩)) := by kernel_rfl
theorem kLaw_5_eq : kc (CL mx) run lp (kLaw_5 mx) ⟨kLaw_T v0 v2 v3 v5 v6 v7 v9 v11 v14 v15 v16 v17 v18 v23 v34 v37 v38 v39 v40 v53, h⟩ κn κx = lenT v6 h (fun a0 h => cmp ibeq a0 v3 h (fun a1 h => κx .ret ⟨kLaw_T v0 a1 v3 v5 v6 v7 v9 v11 v14 v15 v16 v17 v18 v23 v34 v37 v38 v39 v40 v53, h⟩)) := by kernel_rfl
theorem kLaw_6_eq : kc (CL mx) run lp (kLaw_6 mx) ⟨kLaw_T v0 v2 v3 v5 v6 v7 v9 v11 v14 v15 v16 v17 v18 v23 v34 v37 v38 v39 v40 v53, h⟩ κn κx = cmp ilt v39 v38 h (fun a0 h => kcIf a0 (idxS 1 v37 v39 h (fun a1 h => load1 a1 h (fun a2 h => lenT a2 h (fun a3 h => arith iadd v7 a3 h (fun a4 h => arith iadd a4 (.int 9223372036854775807 1) h (fun a5 h => slT v6 (some v7) (some a5) h (fun a6 h => strAdd a2 (.str [46]) h (fun a7 h => strCmp neS a6 a7 h (fun a8 h => kcIf a8 (κx .ret ⟨kLaw_T v0 (.bool false) v3 v5 v6 v7 a2 v11 v14 v15 v16 v17 v18 v23 v34 v37 v38 v39 a0 a8, h⟩) (lenT a2 h (fun a9 h => arith iadd a9 (.int 9223372036854775807 1) h (fun a10 h => arith iadd v7 a10 h (fun a11 h => arith iadd v39 (.int 9223372036854775807 1) h (fun a12 h => κn ⟨kLaw_T v0 v2 v3 v5 v6 a11 a2 v11 v14 v15 v16 v17 v18 v23 v34 v37 v38 a12 a0 a8, h⟩)))))))))))))) (κx (.exit 2) ⟨kLaw_T v0 v2 v3 v5 v6 v7 v9 v11 v14 v15 v16 v17 v18 v23 v34 v37 v38 v39 a0 v53, h⟩)) := by kernel_rfl
theorem kLaw_end : kcE (CL mx) [.tmp 2] ⟨kLaw_T v0 v2 v3 v5 v6 v7 v9 v11 v14 v15 v16 v17 v18 v23 v34 v37 v38 v39 v40 v53, h⟩ = some (.vh v2 h) := (kcE_eq _ _ _).trans (by kernel_rfl)
theorem kLaw_fk : fkAt (CL mx) 4 = some ⟨kLaw_0 mx, [0, 2, 3, 5, 6, 7, 9, 11, 14, 15, 16, 17, 18, 23, 34, 37, 38, 39, 40, 53], 64, [.tmp 2]⟩ := by kernel_rfl
end
theorem kLaw_run (mx : Int) (run : Run) (lp : Lp) (x0 : AV) (h : AH) : runF (CL mx) run lp 4 [x0] h = vhO (kc (CL mx) run lp (kLaw_0 mx) ⟨kLaw_T x0 .bot .bot .bot .bot .bot .bot .bot .bot .bot .bot .bot .bot .bot .bot .bot .bot .bot .bot .bot, h⟩ (kcE (CL mx) [.tmp 2]) (kcQ (CL mx) [.tmp 2])) := (run_kc (by kernel_rfl) (kLaw_fk mx) (by kernel_rfl)).trans (by kernel_rfl)
theorem kLaw_nat (mx : Int) (p : List Nat) : NatK (CL mx) (kAt p (kOf (CL mx) 4)) := kAt_nat p (kOf_nat (CL mx) 4)
def kLaw_s := And.intro @kLaw_0_eq (And.intro @kLaw_1_eq (And.intro @kLaw_2_eq (And.intro @kLaw_3_eq (And.intro @kLaw_4_eq (And.intro @kLaw_5_eq (And.intro @kLaw_6_eq (@kLaw_end)))))))
/- guipure/dns.Join -/
def kJoi_T (v0 v2 v3 v5 v8 v9 v10 v11 v12 : AV) : Tm := (.nd 8 (.nd 3 (.nd 2 (.lf 0 v0) (.lf 2 v2)) (.nd 5 (.lf 3 v3) (.lf 5 v5))) (.nd 10 (.nd 9 (.lf 8 v8) (.lf 9 v9)) (.nd 11 (.lf 10 v10) (.nd 12 (.lf 11 v11) (.lf 12 v12)))))
def kJoi_0 (mx : Int) : K := kAt [] (kOf (CL mx) 11)
def kJoi_1 (mx : Int) : K := kAt [1, 1, 1, 0] (kOf (CL mx) 11)
def kJoi_2 (mx : Int) : K := kAt [1, 1, 1, 1] (kOf (CL mx) 11)
def kJoi_3 (mx : Int) : K := kAt [1, 1, 1, 0, 1, 0, 0] (kOf (CL mx) 11)
section
set_option maxRecDepth 100000
variable (mx : Int) (run : Run) (lp : Lp) (κn : Kt) (κx : Ex → Kt) (h : AH) (v0 v2 v3 v5 v8 v9 v10 v11 v12 : AV)
theorem kJoi_0_eq : kc (CL mx) run lp (kJoi_0 mx) ⟨kJoi_T v0 v2 v3 v5 v8 v9 v10 v11 v12, h⟩ κn κx = lenS v0 h (fun a0 h => cmp ibeq a0 (.int 9223372036854775807 0) h (fun a1 h => kcIf a1 (κx .ret ⟨kJoi_T v0 (.str [46]) v3 v5 a1 v9 v10 v11 v12, h⟩) (kc (CL mx) run lp (kJoi_1 mx) ⟨kJoi_T v0 (.str []) (.str []) v5 a1 v9 v10 v11 v12, h⟩ (fun s => kc (CL mx) run lp (kJoi_2 mx) s κn κx) κx))) := by kernel_rfl
theorem kJoi_1_eq : kc (CL mx) run lp (kJoi_1 mx) ⟨kJoi_T v0 v2 v3 v5 v8 v9 v10 v11 v12, h⟩ κn κx = lenS v0 h (fun a0 h => kcR κn (kcO 0 κn κx) (lp (kJoi_3 mx) ⟨kJoi_T v0 v2 v3 v5 v8 v0 a0 (.int 9223372036854775807 0) v12, h⟩)) := by kernel_rfl
theorem kJoi_2_eq : kc (CL mx) run lp (kJoi_2 mx) ⟨kJoi_T v0 v2 v3 v5 v8 v9 v10 v11 v12, h⟩ κn κx = κx .ret ⟨kJoi_T v0 v3 v3 v5 v8 v9 v10 v11 v12, h⟩ := by kernel_rfl
theorem kJoi_3_eq : kc (CL mx) run lp (kJoi_3 mx) ⟨kJoi_T v0 v2 v3 v5 v8 v9 v10 v11 v12, h⟩ κn κx = cmp ilt v11 v10 h (fun a0 h => kcIf a0 (idxS 1 v9 v11 h (fun a1 h => load1 a1 h (fun a2 h => strAdd a2 (.str [46]) h (fun a3 h => strAdd v3 a3 h (fun a4 h => arith iadd v11 (.int 9223372036854775807 1) h (fun a5 h => κn ⟨kJoi_T v0 v2 a4 a2 v8 v9 v10 a5 a0, h⟩)))))) (κx (.exit 0) ⟨kJoi_T v0 v2 v3 v5 v8 v9 v10 v11 a0, h⟩)) := by kernel_rfl
theorem kJoi_end : kcE (CL mx) [.tmp 2] ⟨kJoi_T v0 v2 v3 v5 v8 v9 v10 v11 v12, h⟩ = some (.vh v2 h) := (kcE_eq _ _ _).trans (by kernel_rfl)
theorem kJoi_fk : fkAt (CL mx) 11 = some ⟨kJoi_0 mx, [0, 2, 3, 5, 8, 9, 10, 11, 12], 21, [.tmp 2]⟩ := by kernel_rfl
end
theorem kJoi_run (mx : Int) (run : Run) (lp : Lp) (x0 : AV) (h : AH) : runF (CL mx) run lp 11 [x0] h = vhO (kc (CL mx) run lp (kJoi_0 mx) ⟨kJoi_T x0 .bot .bot .bot .bot .bot .bot .bot .bot, h⟩ (kcE (CL mx) [.tmp 2]) (kcQ (CL mx) [.tmp 2])) := (run_kc (by kernel_rfl) (kJoi_fk mx) (by kernel_rfl)).trans (by kernel_rfl)
theorem kJoi_nat (mx : Int) (p : List Nat) : NatK (CL mx) (kAt p (kOf (CL mx) 11)) := kAt_nat p (kOf_nat (CL mx) 11)
def kJoi_s := And.intro @kJoi_0_eq (And.intro @kJoi_1_eq (And.intro @kJoi_2_eq (And.intro @kJoi_3_eq (@kJoi_end))))
end
theorem cl_ok {mx : Int} : CxOk Tryz.prog (CL mx) := (CxOk.told c1_ok (show MemosOk Tryz.prog (C1 mx) (.lf 6 [([], .bool true)]) from fun p hp => by
  obtain rfl : p = ([], .bool true) := by simpa using hp
  exact as_head c1_ok)).ownd _
/-- So many bytes with a point behind each. -/
def szJ : List (List Nat) → Nat
  | [] => 0
  | x :: r => x.length + 1 + szJ r
/-- The text. -/
def joinJ : List (List Nat) → List Nat
  | [] => []
  | x :: r => x ++ 46 :: joinJ r
theorem szJ_app : ∀ a b : List (List Nat), szJ (a ++ b) = szJ a + szJ b
  | [], b => by simp [szJ]
  | x :: a, b => by simp only [List.cons_append, szJ, szJ_app a b]; omega
theorem joinJ_app : ∀ a b : List (List Nat), joinJ (a ++ b) = joinJ a ++ joinJ b
  | [], b => by simp [joinJ]
  | x :: a, b => by simp [joinJ, joinJ_app a b]
theorem joinJ_len : ∀ a : List (List Nat), (joinJ a).length = szJ a
  | [] => rfl
  | x :: a => by simp [joinJ, szJ, joinJ_len a]; omega
theorem szJ_le : ∀ {a : List (List Nat)}, (∀ x ∈ a, x.length ≤ 100) → szJ a ≤ 101 * a.length
  | [], _ => by simp [szJ]
  | x :: a, h => by
    have := szJ_le (a := a) fun y hy => h y (List.mem_cons_of_mem _ hy)
    have := h x (List.mem_cons_self ..)
    simp only [szJ, List.length_cons]; omega
section
variable {mx : Int} {Q : Option Rs → Prop} {κn : Kt} {κx : Ex → Kt} {l : List (List Nat)} {sl : AV}
theorem joi_loop (hs : PureS sl (strsA l)) (hl : l.length ≤ 50) (h100 : ∀ x ∈ l, x.length ≤ 100) (v0 v2 v8 : AV) : ∀ (r p : List (List Nat)) (f : Nat) (h : AH) (v5 v12 : AV), l = p ++ r → r.length + 1 ≤ f →
    (∀ h v5 v12, Q (κx (.exit 0) ⟨kJoi_T v0 v2 (.str (joinJ l)) v5 v8 sl (.int 9223372036854775807 (l.length : Int)) (.int 9223372036854775807 (l.length : Int)) v12, h⟩)) →
    Q (kcR κn κx ((rl (CL mx) f).lp (kJoi_3 mx) ⟨kJoi_T v0 v2 (.str (joinJ p)) v5 v8 sl (.int 9223372036854775807 (l.length : Int)) (.int 9223372036854775807 (p.length : Int)) v12, h⟩)) := by
  intro r
  induction r with
  | nil =>
    intro p f h v5 v12 hp hf hk
    obtain ⟨f, rfl⟩ := fuel hf
    obtain rfl : l = p := by simpa using hp
    refine wLoop (kJoi_nat mx _) ?_
    simp only [sy, List.length_append, Nat.reduceAdd, Nat.reduceMul, Nat.reduceSub, Nat.reduceLeDiff, Nat.reduceEqDiff, Nat.reduceLT, reduceIte, kJoi_s, Int.lt_irrefl]
    exact hk _ _ _
  | cons x r ih =>
    intro p f h v5 v12 hp hf hk
    obtain ⟨f, rfl⟩ := fuel hf
    have hlen : l.length = p.length + (r.length + 1) := by rw [hp]; simp
    have hx : l[p.length]? = some x := by rw [hp]; simp
    have hx1 : x.length ≤ 100 := h100 x (List.mem_of_getElem? hx)
    obtain ⟨q, _, q2, q3⟩ := (hs.at h).idx (strsA_get hx)
    have hpl : szJ p ≤ 101 * p.length := szJ_le fun y hy => h100 y (by rw [hp]; simp [hy])
    have e1 : decide ((p.length : Int) < (l.length : Int)) = true := by rw [decide_eq_true_iff]; omega
    have e2 : decide (x.length ≤ 9223372036854775806) = true := by rw [decide_eq_true_iff]; omega
    have e3 : decide ((joinJ p).length + (x.length + 1) ≤ 9223372036854775807) = true := by rw [decide_eq_true_iff, joinJ_len]; omega
    have e4 : wrapA 9223372036854775807 ((p.length : Int) + 1) = (((p ++ [x]).length : Nat) : Int) := by rw [wrapA_i64 (by omega) (by omega)]; simp
    refine wLoop (kJoi_nat mx _) ?_
    simp only [sy, List.length_append, Nat.reduceAdd, Nat.reduceMul, Nat.reduceSub, Nat.reduceLeDiff, Nat.reduceEqDiff, Nat.reduceLT, reduceIte, kJoi_s, e1, q2, q3, e2, e3]
    rw [e4]
    rw [show joinJ p ++ (x ++ [46]) = joinJ (p ++ [x]) by rw [joinJ_app]; simp [joinJ]]
    have := ih (p ++ [x]) (f + r.length + 1) h (.str x) (.bool true) (by rw [hp]; simp) (by omega) hk
    exact this
theorem join_gives (hs : PureS sl (strsA l)) (hl : l.length ≤ 50) (h100 : ∀ x ∈ l, x.length ≤ 100) (f : Nat) (hf : l.length + 3 ≤ f) (h : AH) : Gives (fun r _ => r = .str (if l = [] then [46] else joinJ l)) ((rl (CL mx) f).run 11 [sl] h) := by
  obtain ⟨f, rfl⟩ := fuel hf
  refine Gives.runs (n := f + l.length + 2) (kJoi_run mx _ _ _ _) ?_
  have hL := hs.len
  rw [strsA_len] at hL
  by_cases h0 : l = []
  · subst h0
    simp only [sy, List.length_append, Nat.reduceAdd, Nat.reduceMul, Nat.reduceSub, Nat.reduceLeDiff, Nat.reduceEqDiff, Nat.reduceLT, reduceIte, kJoi_s, hL]
    exact Ends.mk rfl
  · have e1 : decide ((l.length : Int) = 0) = false := by
      rw [decide_eq_false_iff_not]
      intro c
      exact h0 (List.length_eq_zero_iff.1 (by omega))
    simp only [sy, List.length_append, Nat.reduceAdd, Nat.reduceMul, Nat.reduceSub, Nat.reduceLeDiff, Nat.reduceEqDiff, Nat.reduceLT, reduceIte, kJoi_s, hL, e1]
    refine joi_loop hs hl h100 _ _ _ l [] _ h _ _ (by simp) (by omega) fun h v5 v12 => ?_
    simp only [sy, List.length_append, Nat.reduceAdd, Nat.reduceMul, Nat.reduceSub, Nat.reduceLeDiff, Nat.reduceEqDiff, Nat.reduceLT, reduceIte, kJoi_s, if_neg h0]
    exact Ends.mk rfl
theorem law_loop3 (hs : PureS sl (strsA l)) (hl : l.length ≤ 50) (v0 v6 v7 v9 v11 v14 v34 v37 v38 v39 v40 v53 : AV) : ∀ (r p : List (List Nat)) (f : Nat) (h : AH) (v2 v5 v18 v23 : AV), l = p ++ r → r.length + 1 ≤ f → (∀ x ∈ p, x.length ≤ 100) →
    ((∀ x ∈ l, x.length ≤ 100) → ∀ h v2 v5 v18 v23, Q (κx (.exit 0) ⟨kLaw_T v0 v2 (.int 9223372036854775807 (szJ l : Int)) v5 v6 v7 v9 v11 v14 sl (.int 9223372036854775807 (l.length : Int)) (.int 9223372036854775807 (l.length : Int)) v18 v23 v34 v37 v38 v39 v40 v53, h⟩)) →
    (∀ h v3 v5 v17 v18 v23, Q (κx .ret ⟨kLaw_T v0 (.bool true) v3 v5 v6 v7 v9 v11 v14 sl (.int 9223372036854775807 (l.length : Int)) v17 v18 v23 v34 v37 v38 v39 v40 v53, h⟩)) →
    Q (kcR κn κx ((rl (CL mx) f).lp (kLaw_3 mx) ⟨kLaw_T v0 v2 (.int 9223372036854775807 (szJ p : Int)) v5 v6 v7 v9 v11 v14 sl (.int 9223372036854775807 (l.length : Int)) (.int 9223372036854775807 (p.length : Int)) v18 v23 v34 v37 v38 v39 v40 v53, h⟩)) := by
  intro r
  induction r with
  | nil =>
    intro p f h v2 v5 v18 v23 hp hf h100 hk hr
    obtain ⟨f, rfl⟩ := fuel hf
    obtain rfl : l = p := by simpa using hp
    refine wLoop (kLaw_nat mx _) ?_
    simp only [sy, List.length_append, Nat.reduceAdd, Nat.reduceMul, Nat.reduceSub, Nat.reduceLeDiff, Nat.reduceEqDiff, Nat.reduceLT, reduceIte, kLaw_s, Int.lt_irrefl]
    exact hk h100 _ _ _ _ _
  | cons x r ih =>
    intro p f h v2 v5 v18 v23 hp hf h100 hk hr
    obtain ⟨f, rfl⟩ := fuel hf
    have hlen : l.length = p.length + (r.length + 1) := by rw [hp]; simp
    have hx : l[p.length]? = some x := by rw [hp]; simp
    obtain ⟨q, _, q2, q3⟩ := (hs.at h).idx (strsA_get hx)
    have hpl : szJ p ≤ 101 * p.length := szJ_le h100
    have e1 : decide ((p.length : Int) < (l.length : Int)) = true := by rw [decide_eq_true_iff]; omega
    refine wLoop (kLaw_nat mx _) ?_
    simp only [sy, List.length_append, Nat.reduceAdd, Nat.reduceMul, Nat.reduceSub, Nat.reduceLeDiff, Nat.reduceEqDiff, Nat.reduceLT, reduceIte, kLaw_s, e1, q2, q3]
    refine wIf (fun _ => hr _ _ _ _ _ _) fun hx1 => ?_
    have hx1 : x.length ≤ 100 := by omega
    have e3 : wrapA 9223372036854775807 ((x.length : Int) + 1) = (x.length : Int) + 1 := wrapA_i64 (by omega) (by omega)
    have e5 : wrapA 9223372036854775807 ((szJ p : Int) + ((x.length : Int) + 1)) = ((szJ (p ++ [x]) : Nat) : Int) := by rw [wrapA_i64 (by omega) (by omega), szJ_app]; simp [szJ]
    have e4 : wrapA 9223372036854775807 ((p.length : Int) + 1) = (((p ++ [x]).length : Nat) : Int) := by rw [wrapA_i64 (by omega) (by omega)]; simp
    simp only [e3, e4, e5]
    exact ih (p ++ [x]) (f + r.length + 1) h v2 (.str x) _ _ (by rw [hp]; simp) (by omega) (by
      intro y hy
      rcases List.mem_append.1 hy with hy | hy
      · exact h100 y hy
      · obtain rfl : y = x := by simpa using hy
        exact hx1) hk hr
theorem law_loop6 (hs : PureS sl (strsA l)) (hl : l.length ≤ 50) (h100 : ∀ x ∈ l, x.length ≤ 100) (v0 v2 v3 v5 v11 v14 v15 v16 v17 v18 v23 v34 : AV) : ∀ (r p : List (List Nat)) (f : Nat) (h : AH) (v9 v40 v53 : AV), l = p ++ r → r.length + 1 ≤ f →
    (∀ h v7 v9 v40 v53, Q (κx (.exit 2) ⟨kLaw_T v0 v2 v3 v5 (.str (joinJ l)) v7 v9 v11 v14 v15 v16 v17 v18 v23 v34 sl (.int 9223372036854775807 (l.length : Int)) (.int 9223372036854775807 (l.length : Int)) v40 v53, h⟩)) →
    Q (kcR κn κx ((rl (CL mx) f).lp (kLaw_6 mx) ⟨kLaw_T v0 v2 v3 v5 (.str (joinJ l)) (.int 9223372036854775807 (szJ p : Int)) v9 v11 v14 v15 v16 v17 v18 v23 v34 sl (.int 9223372036854775807 (l.length : Int)) (.int 9223372036854775807 (p.length : Int)) v40 v53, h⟩)) := by
  intro r
  induction r with
  | nil =>
    intro p f h v9 v40 v53 hp hf hk
    obtain ⟨f, rfl⟩ := fuel hf
    obtain rfl : l = p := by simpa using hp
    refine wLoop (kLaw_nat mx _) ?_
    simp only [sy, List.length_append, Nat.reduceAdd, Nat.reduceMul, Nat.reduceSub, Nat.reduceLeDiff, Nat.reduceEqDiff, Nat.reduceLT, reduceIte, kLaw_s, Int.lt_irrefl]
    exact hk _ _ _ _ _
  | cons x r ih =>
    intro p f h v9 v40 v53 hp hf hk
    obtain ⟨f, rfl⟩ := fuel hf
    have hlen : l.length = p.length + (r.length + 1) := by rw [hp]; simp
    have hx : l[p.length]? = some x := by rw [hp]; simp
    have hx1 : x.length ≤ 100 := h100 x (List.mem_of_getElem? hx)
    obtain ⟨q, _, q2, q3⟩ := (hs.at h).idx (strsA_get hx)
    have hpl : szJ p ≤ 101 * p.length := szJ_le fun y hy => h100 y (by rw [hp]; simp [hy])
    have e1 : decide ((p.length : Int) < (l.length : Int)) = true := by rw [decide_eq_true_iff]; omega
    have e3 : wrapA 9223372036854775807 ((szJ p : Int) + (x.length : Int)) = ((szJ p + x.length : Nat) : Int) := by rw [wrapA_i64 (by omega) (by omega)]; simp
    have e5 : wrapA 9223372036854775807 (((szJ p + x.length : Nat) : Int) + 1) = ((szJ p + x.length + 1 : Nat) : Int) := by rw [wrapA_i64 (by omega) (by omega)]; simp
    have e6 : wrapA 9223372036854775807 ((x.length : Int) + 1) = ((x.length + 1 : Nat) : Int) := by rw [wrapA_i64 (by omega) (by omega)]; simp
    have e7 : wrapA 9223372036854775807 ((szJ p : Int) + ((x.length + 1 : Nat) : Int)) = ((szJ (p ++ [x]) : Nat) : Int) := by rw [wrapA_i64 (by omega) (by omega), szJ_app]; simp [szJ]
    have e4 : wrapA 9223372036854775807 ((p.length : Int) + 1) = (((p ++ [x]).length : Nat) : Int) := by rw [wrapA_i64 (by omega) (by omega)]; simp
    have e8 : decide (x.length ≤ 9223372036854775806) = true := by rw [decide_eq_true_iff]; omega
    have hj : joinJ l = joinJ p ++ ((x ++ [46]) ++ joinJ r) := by rw [hp, joinJ_app]; simp [joinJ]
    have e9 : (decide (szJ p ≤ szJ p + x.length + 1) && decide (szJ p + x.length + 1 ≤ (joinJ l).length)) = true := by
      rw [Bool.and_eq_true, decide_eq_true_iff, decide_eq_true_iff, hj]
      simp [joinJ_len]; omega
    have e10 : ((joinJ l).drop (szJ p)).take (szJ p + x.length + 1 - szJ p) = x ++ [46] := by
      rw [hj, ← joinJ_len p, List.drop_left, show (joinJ p).length + x.length + 1 - (joinJ p).length = (x ++ [46]).length by simp; omega, List.take_left]
    have e11 : neS (x ++ [46]) (x ++ [46]) = false := by unfold neS; rw [eqS_refl]; rfl
    refine wLoop (kLaw_nat mx _) ?_
    simp only [sy, List.length_append, Nat.reduceAdd, Nat.reduceMul, Nat.reduceSub, Nat.reduceLeDiff, Nat.reduceEqDiff, Nat.reduceLT, reduceIte, kLaw_s, e1, q2, q3, e3, e5, slT_lu, e9, e10]
    simp only [sy, List.length_append, Nat.reduceAdd, Nat.reduceMul, Nat.reduceSub, Nat.reduceLeDiff, Nat.reduceEqDiff, Nat.reduceLT, reduceIte, e8, e11, e6, e7]
    rw [e4]
    exact ih (p ++ [x]) (f + r.length + 1) h (.str x) (.bool true) (.bool false) (by rw [hp]; simp) (by omega) hk
theorem law_run (hs : PureS sl (strsA l)) : ∃ h', (rl (CL mx) 60).run 4 [sl] [] = some (.bool true, h') := by
  have g : Gives (fun r _ => r = .bool true) ((rl (CL mx) 60).run 4 [sl] []) := by
    refine Gives.runs (n := 59) (kLaw_run mx _ _ _ _) ?_
    have hL := hs.len
    rw [strsA_len] at hL
    have hhead := fun h => callA_memo (C := CL mx) (run := (rl (CL mx) 59).run) (h := h) (f := 6) (args := []) (v := .bool true) (by kernel_rfl) (by kernel_rfl) (by kernel_rfl)
    simp only [sy, List.length_append, Nat.reduceAdd, Nat.reduceMul, Nat.reduceSub, Nat.reduceLeDiff, Nat.reduceEqDiff, Nat.reduceLT, reduceIte, kLaw_s, hhead, hL]
    refine wIf (fun _ => Ends.mk rfl) fun hl => ?_
    have hl : l.length ≤ 50 := by omega
    refine law_loop3 hs hl _ _ _ _ _ _ _ _ _ _ _ _ l [] _ _ _ _ _ _ (by simp) (by omega) (by simp) ?_ ?_
    · intro h100 h v2 v5 v18 v23
      simp only [sy, List.length_append, Nat.reduceAdd, Nat.reduceMul, Nat.reduceSub, Nat.reduceLeDiff, Nat.reduceEqDiff, Nat.reduceLT, reduceIte, kLaw_s]
      refine wCall (join_gives hs hl h100 59 (by omega) _).call ?_
      rintro r h' rfl
      by_cases h0 : l = []
      · subst h0
        simp only [sy, List.length_append, Nat.reduceAdd, Nat.reduceMul, Nat.reduceSub, Nat.reduceLeDiff, Nat.reduceEqDiff, Nat.reduceLT, reduceIte, kLaw_s, hL]
        exact Ends.mk rfl
      · have e1 : decide ((l.length : Int) = 0) = false := by
          rw [decide_eq_false_iff_not]
          intro c
          exact h0 (List.length_eq_zero_iff.1 (by omega))
        rw [if_neg h0]
        simp only [sy, List.length_append, Nat.reduceAdd, Nat.reduceMul, Nat.reduceSub, Nat.reduceLeDiff, Nat.reduceEqDiff, Nat.reduceLT, reduceIte, kLaw_s, hL, e1]
        refine law_loop6 hs hl h100 _ _ _ _ _ _ _ _ _ _ _ _ l [] _ _ _ _ _ (by simp) (by omega) ?_
        intro h v7 v9 v40 v53
        simp only [sy, List.length_append, Nat.reduceAdd, Nat.reduceMul, Nat.reduceSub, Nat.reduceLeDiff, Nat.reduceEqDiff, Nat.reduceLT, reduceIte, kLaw_s, joinJ_len]
        exact Ends.mk rfl
    · intro h v3 v5 v17 v18 v23
      simp only [sy, List.length_append, Nat.reduceAdd, Nat.reduceMul, Nat.reduceSub, Nat.reduceLeDiff, Nat.reduceEqDiff, Nat.reduceLT, reduceIte, kLaw_s]
      exact Ends.mk rfl
  obtain ⟨r, h', e, rfl⟩ := g
  exact ⟨h', e⟩
end
/-- Texts that came in. -/
theorem strs_open {n : Nat} : ∀ {len : Nat} {cs : List AV}, TyL (TyC Tryz.prog n) (List.replicate len 9) cs → ∃ L : List (List Nat), cs = strsA L ∧ L.length = len
  | 0, cs, h => ⟨[], by rw [show cs = [] from h]; rfl, rfl⟩
  | len + 1, cs, h => by
    rw [List.replicate_succ] at h
    obtain ⟨a, r, rfl, h1, h2⟩ := h
    obtain ⟨L, rfl, g2⟩ := strs_open h2
    obtain ⟨k, rfl, _⟩ := TyC.string_ Tryz.underlying9 h1
    exact ⟨k :: L, rfl, by simp [g2]⟩
theorem strs_arg {n : Nat} {a : AV} (t : TyC Tryz.prog n 24 [a]) : ∃ l : List (List Nat), PureS a (strsA l) := by
  rcases TyC.slice_ Tryz.underlying24 t with e | e | ⟨m, cs, len, e, g1, g2, g3⟩
  · cases e; exact ⟨[], .inl ⟨rfl, .inl rfl⟩⟩
  · cases e; exact ⟨[], .inl ⟨rfl, .inr rfl⟩⟩
  · cases e
    obtain ⟨L, rfl, q2⟩ := strs_open g3
    exact ⟨L, .inr (by rw [strsA_len, q2])⟩
set_option maxRecDepth 100000 in
theorem DnsJoins_calls {W : World} {args : Array Value} {a0 : AV} {n0 : Nat} {mx : Int} (I : Inv (C0 mx) (· < W.heap.size) W ρ0 []) (hv : VL (· < W.heap.size) W [a0] ρ0 args.toList)
    (t0 : TyV Tryz.prog n0 24 a0) : Calls Tryz.prog 4 args W fun e w' => e = .returned (.bool true) ∧ RowKit.Below W.heap.size W w' := by
  obtain ⟨l, h1⟩ := strs_arg (n := n0) (a := a0) (by unfold TyV at t0; rw [Tryz.underlying24] at t0; exact t0)
  obtain ⟨h', e⟩ := law_run (mx := mx) h1
  exact calls_of_run (runN_ok cl_ok 60 _ _ _ _ _ e) (((I.of_gl (opened_gl _ _ _)).of_gl (told_gl _ _)).of_gl (ownd_gl _ _)) hv
end Go.Proofs.YtgjoogfoeomcdaaGreatDoor
