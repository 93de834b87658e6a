/- The functions of package wide built of the first ones: Line, Solve, Eval, Int, Within. -/
import Derived.Test.YtmfjfjjdmgjoaaaWide
import Derived.BigQuiet
import Derived.Deep.QuietTactic
import Derived.RowKit3
namespace Go.Proofs.Ytmfjfjjdmgjoaaa
open Go.RowKit Go.Lib

/-- wide.Line. -/
theorem wline_ok (m x a : Int) (w : World) (hm : 0 ≤ m) (hx : 0 ≤ x) (ha : 0 ≤ a) (hm' : m ≤ 18446744073709551615) (hx' : x ≤ 18446744073709551615) (h : m * x + a ≤ 18446744073709551615) :
    Calls Try.prog 13 #[.int .u64 m, .int .u64 x, .int .u64 a] w fun e w' => e = .returned (.tuple #[.int .u64 (m * x + a), .int .i64 0]) ∧ w = w' := by
  have h0 : 0 ≤ m * x := Int.mul_nonneg hm hx
  have h1 : m * x ≤ 18446744073709551615 := by omega
  have c := fun w => wmul_ok m x w hm hx hm' hx' h1
  generalize m * x = p at *
  have C := Lib.hid c
  clear c
  go_enter Try.func13, Try.ntmps13
  go_wp2_with (first | (go_at_call 12; refine (C.out _).mono ?_; rintro e w' ⟨rfl, rfl⟩) | (go_at_call 10; refine (wadd_ok _ _ _ h0 ha h).mono ?_; rintro e w' ⟨rfl, rfl⟩))
  go_ret2
  exact ⟨rfl, rfl⟩
theorem wline_no (m x a : Int) (w : World) (hm : 0 ≤ m) (hx : 0 ≤ x) (ha : 0 ≤ a) (hm' : m ≤ 18446744073709551615) (hx' : x ≤ 18446744073709551615) (ha' : a ≤ 18446744073709551615) (h : 18446744073709551615 < m * x + a) :
    Calls Try.prog 13 #[.int .u64 m, .int .u64 x, .int .u64 a] w fun e w' => e = .returned (.tuple #[.int .u64 0, .int .i64 40]) ∧ w = w' := by
  by_cases h1 : m * x ≤ 18446744073709551615
  · have h0 : 0 ≤ m * x := Int.mul_nonneg hm hx
    have c := fun w => wmul_ok m x w hm hx hm' hx' h1
    generalize m * x = p at *
    have C := Lib.hid c
    clear c
    go_enter Try.func13, Try.ntmps13
    go_wp2_with (first | (go_at_call 12; refine (C.out _).mono ?_; rintro e w' ⟨rfl, rfl⟩) | (go_at_call 10; refine (wadd_no _ _ _ h0 ha h1 ha' h).mono ?_; rintro e w' ⟨rfl, rfl⟩))
    go_ret2
    exact ⟨rfl, rfl⟩
  · have c := fun w => wmul_no m x w hm hx hm' hx' (by omega)
    have C := Lib.hid c
    clear c h h1
    go_enter Try.func13, Try.ntmps13
    go_wp2_with (go_at_call 12; refine (C.out _).mono ?_; rintro e w' ⟨rfl, rfl⟩)
    go_ret2
    exact ⟨rfl, rfl⟩

/-- wide.Solve. -/
theorem wsolve_over (m y a : Int) (w : World) (h : y < a) :
    Calls Try.prog 14 #[.int .u64 m, .int .u64 y, .int .u64 a] w fun e w' => e = .returned (.tuple #[.int .u64 0, .int .i64 40]) ∧ w = w' := by
  go_enter Try.func14, Try.ntmps14
  go_wp2_with (go_at_call 11; refine (wsub_no _ _ _ h).mono ?_; rintro e w' ⟨rfl, rfl⟩)
  go_ret2
  exact ⟨rfl, rfl⟩
theorem wsolve_zero (y a : Int) (w : World) (ha : 0 ≤ a) (hy' : y ≤ 18446744073709551615) (h : a ≤ y) :
    Calls Try.prog 14 #[.int .u64 0, .int .u64 y, .int .u64 a] w fun e w' => e = .returned (.tuple #[.int .u64 0, .int .i64 3]) ∧ w = w' := by
  go_enter Try.func14, Try.ntmps14
  go_wp2_with (go_at_call 11; refine (wsub_ok _ _ _ ha hy' h).mono ?_; rintro e w' ⟨rfl, rfl⟩)
  go_ret2
  exact ⟨rfl, rfl⟩
theorem wsolve_missing (m y a : Int) (w : World) (hm : 1 ≤ m) (ha : 0 ≤ a) (hy' : y ≤ 18446744073709551615) (h : a ≤ y) (hr : 1 ≤ (y - a) % m) :
    Calls Try.prog 14 #[.int .u64 m, .int .u64 y, .int .u64 a] w fun e w' => e = .returned (.tuple #[.int .u64 0, .int .i64 3]) ∧ w = w' := by
  have hz : (m == 0) = false := by rw [beq_eq_false_iff_ne]; omega
  have hl : 0 ≤ y - a := by omega
  have hq : ((y - a) % m == 0) = false := by rw [beq_eq_false_iff_ne]; omega
  have hq' : ((y - a) % m != 0) = true := by rw [bne_iff_ne]; omega
  go_enter Try.func14, Try.ntmps14
  go_wp2_with (go_at_call 11; refine (wsub_ok _ _ _ ha hy' h).mono ?_; rintro e w' ⟨rfl, rfl⟩)
  go_ret2
  exact ⟨rfl, rfl⟩
theorem wsolve_ok (m y a : Int) (w : World) (hm : 1 ≤ m) (hm' : m ≤ 18446744073709551615) (ha : 0 ≤ a) (hy' : y ≤ 18446744073709551615) (h : a ≤ y) (hr : (y - a) % m = 0) :
    Calls Try.prog 14 #[.int .u64 m, .int .u64 y, .int .u64 a] w fun e w' => e = .returned (.tuple #[.int .u64 ((y - a) / m), .int .i64 0]) ∧ w = w' := by
  have hz : (m == 0) = false := by rw [beq_eq_false_iff_ne]; omega
  have hl : 0 ≤ y - a := by omega
  have hl' : 0 ≤ (y - a) / m := Int.ediv_nonneg hl (by omega)
  have hl2 : (y - a) / m ≤ 18446744073709551615 := by
    have := Int.ediv_le_self m hl
    omega
  have hq : ((y - a) % m == 0) = true := by rw [beq_iff_eq]; omega
  have hq' : ((y - a) % m != 0) = false := by rw [bne_eq_false_iff_eq]; omega
  clear hr
  go_enter Try.func14, Try.ntmps14
  go_wp2_with (go_at_call 11; refine (wsub_ok _ _ _ ha hy' h).mono ?_; rintro e w' ⟨rfl, rfl⟩)
  go_ret2
  exact ⟨rfl, rfl⟩

/-- wide.Within. -/
theorem wwithin (n l h : Int) (w : World) :
    Calls Try.prog 19 #[.int .u64 n, .int .u64 l, .int .u64 h] w fun e w' => e = .returned (.bool (decide (l ≤ n) && decide (n ≤ h))) ∧ w = w' := by
  by_cases h1 : l ≤ n
  · have h1' : decide (l ≤ n) = true := by simp [h1]
    go_enter Try.func19, Try.ntmps19
    go_wp2
    go_ret
    exact ⟨by simp [h1], rfl⟩
  · have h1' : decide (l ≤ n) = false := by simp [h1]
    go_enter Try.func19, Try.ntmps19
    go_wp2
    go_ret
    exact ⟨by simp, rfl⟩
end Go.Proofs.Ytmfjfjjdmgjoaaa
