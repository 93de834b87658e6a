/- The laws WideAdds, WideTimes, WideSolves: their walks. -/
import Derived.Test.YtmfjfjjdmgjoaaaWideF
namespace Go.Proofs.Ytmfjfjjdmgjoaaa
open Go.RowKit Go.Lib

theorem ret_tt {x : Bool} (h : x = true) : Ending.returned (.bool x) = .returned (.bool true) := by rw [h]

set_option maxHeartbeats 1600000 in
theorem WideAdds_walk (a : Int) (ha : (Lit.int .u64 a).wf = true) (b : Int) (hb : (Lit.int .u64 b).wf = true) (w : World) :
    Calls Try.prog 3 #[.int .u64 a, .int .u64 b] w fun e w' => e = .returned (.bool true) ∧ Below w.heap.size w w' := by
  obtain ⟨a0, a1⟩ := bounds_u64 ha
  obtain ⟨b0, b1⟩ := bounds_u64 hb
  clear ha hb
  by_cases h1 : a + b ≤ 18446744073709551615 <;> by_cases h2 : a < b
  · go_enter Try.func3, Try.ntmps3
    go_wp2_with fail
    refine (reckons_true _).mono ?_; rintro e w' ⟨rfl, hb1⟩
    go_wp2_with fail
    refine (wadd_ok _ _ _ a0 b0 h1).mono ?_; rintro e w2 ⟨rfl, rfl⟩
    go_wp2_with fail
    refine (wsub_no _ _ _ h2).mono ?_; rintro e w2 ⟨rfl, rfl⟩
    go_wp2_with fail
    go_ret
    exact ⟨rfl, hb1⟩
  · go_enter Try.func3, Try.ntmps3
    go_wp2_with fail
    refine (reckons_true _).mono ?_; rintro e w' ⟨rfl, hb1⟩
    go_wp2_with fail
    refine (wadd_ok _ _ _ a0 b0 h1).mono ?_; rintro e w2 ⟨rfl, rfl⟩
    go_wp2_with fail
    refine (wsub_ok _ _ _ b0 a1 (by omega)).mono ?_; rintro e w2 ⟨rfl, rfl⟩
    go_wp2_with fail
    go_ret
    exact ⟨ret_tt (by rw [beq_iff_eq]; omega), hb1⟩
  · go_enter Try.func3, Try.ntmps3
    go_wp2_with fail
    refine (reckons_true _).mono ?_; rintro e w' ⟨rfl, hb1⟩
    go_wp2_with fail
    refine (wadd_no _ _ _ a0 b0 a1 b1 (by omega)).mono ?_; rintro e w2 ⟨rfl, rfl⟩
    go_wp2_with fail
    refine (wsub_no _ _ _ h2).mono ?_; rintro e w2 ⟨rfl, rfl⟩
    go_wp2_with fail
    go_ret
    exact ⟨rfl, hb1⟩
  · go_enter Try.func3, Try.ntmps3
    go_wp2_with fail
    refine (reckons_true _).mono ?_; rintro e w' ⟨rfl, hb1⟩
    go_wp2_with fail
    refine (wadd_no _ _ _ a0 b0 a1 b1 (by omega)).mono ?_; rintro e w2 ⟨rfl, rfl⟩
    go_wp2_with fail
    refine (wsub_ok _ _ _ b0 a1 (by omega)).mono ?_; rintro e w2 ⟨rfl, rfl⟩
    go_wp2_with fail
    go_ret
    exact ⟨ret_tt (by rw [beq_iff_eq]; omega), hb1⟩

set_option maxHeartbeats 1600000 in
theorem WideSolves_walk (m : Int) (hm : (Lit.int .u64 m).wf = true) (y : Int) (hy : (Lit.int .u64 y).wf = true) (a : Int) (ha : (Lit.int .u64 a).wf = true) (w : World) :
    Calls Try.prog 5 #[.int .u64 m, .int .u64 y, .int .u64 a] w fun e w' => e = .returned (.bool true) ∧ Below w.heap.size w w' := by
  obtain ⟨m0, m1⟩ := bounds_u64 hm
  obtain ⟨y0, y1⟩ := bounds_u64 hy
  obtain ⟨a0, a1⟩ := bounds_u64 ha
  clear ha hm hy
  by_cases h1 : y < a
  · go_enter Try.func5, Try.ntmps5
    go_wp2_with fail
    refine (reckons_true _).mono ?_; rintro e w' ⟨rfl, hb1⟩
    go_wp2_with fail
    refine (wsolve_over _ _ _ _ h1).mono ?_; rintro e w2 ⟨rfl, rfl⟩
    go_wp2_with fail
    go_ret
    exact ⟨rfl, hb1⟩
  have h1' : a ≤ y := by omega
  by_cases h2 : m = 0
  · subst h2
    go_enter Try.func5, Try.ntmps5
    go_wp2_with fail
    refine (reckons_true _).mono ?_; rintro e w' ⟨rfl, hb1⟩
    go_wp2_with fail
    refine (wsolve_zero _ _ _ a0 y1 h1').mono ?_; rintro e w2 ⟨rfl, rfl⟩
    go_wp2_with fail
    go_ret
    exact ⟨rfl, hb1⟩
  have hm1 : 1 ≤ m := by omega
  have hz : (m == 0) = false := by rw [beq_eq_false_iff_ne]; omega
  have hl : 0 ≤ y - a := by omega
  have hd0 : 0 ≤ (y - a) % m := Int.emod_nonneg _ (by omega)
  by_cases h3 : (y - a) % m = 0
  · have hq : ((y - a) % m == 0) = true := by rw [beq_iff_eq]; exact h3
    have hq' : ((y - a) % m != 0) = false := by rw [bne_eq_false_iff_eq]; exact h3
    have c := fun w => wsolve_ok m y a w hm1 m1 a0 y1 h1' h3
    have hx : m * ((y - a) / m) + a = y := by
      have := Int.mul_ediv_add_emod (y - a) m
      omega
    have hx0 : 0 ≤ (y - a) / m := Int.ediv_nonneg hl (by omega)
    have hx1 : (y - a) / m ≤ 18446744073709551615 := by
      have := Int.ediv_le_self m hl
      omega
    have d := fun w => wline_ok m ((y - a) / m) a w m0 hx0 a0 m1 hx1 (by omega)
    rw [hx] at d
    have C := Lib.hid c
    have D := Lib.hid d
    clear c d hx h3 h2
    go_enter Try.func5, Try.ntmps5
    go_wp2_with fail
    refine (reckons_true _).mono ?_; rintro e w' ⟨rfl, hb1⟩
    go_wp2_with fail
    refine (C.out _).mono ?_; rintro e w2 ⟨rfl, rfl⟩
    go_wp2_with fail
    refine (D.out _).mono ?_; rintro e w2 ⟨rfl, rfl⟩
    go_wp2_with fail
    go_ret
    exact ⟨rfl, hb1⟩
  · have h3' : 1 ≤ (y - a) % m := by omega
    have hq : ((y - a) % m == 0) = false := by rw [beq_eq_false_iff_ne]; exact h3
    have hq' : ((y - a) % m != 0) = true := by rw [bne_iff_ne]; exact h3
    go_enter Try.func5, Try.ntmps5
    go_wp2_with fail
    refine (reckons_true _).mono ?_; rintro e w' ⟨rfl, hb1⟩
    go_wp2_with fail
    refine (wsolve_missing _ _ _ _ hm1 a0 y1 h1' h3').mono ?_; rintro e w2 ⟨rfl, rfl⟩
    go_wp2_with fail
    go_ret
    exact ⟨rfl, hb1⟩
theorem wmul_zero (x : Int) (w : World) (hx : 0 ≤ x) (hx' : x ≤ 18446744073709551615) :
    Calls Try.prog 12 #[.int .u64 0, .int .u64 x] w fun e w' => e = .returned (.tuple #[.int .u64 0, .int .i64 0]) ∧ w = w' := by
  have h := wmul_ok 0 x w (by omega) hx (by omega) hx' (by omega)
  rw [Int.zero_mul] at h
  exact h
theorem wline_zero (x a : Int) (w : World) (hx : 0 ≤ x) (hx' : x ≤ 18446744073709551615) (ha : 0 ≤ a) (ha' : a ≤ 18446744073709551615) :
    Calls Try.prog 13 #[.int .u64 0, .int .u64 x, .int .u64 a] w fun e w' => e = .returned (.tuple #[.int .u64 a, .int .i64 0]) ∧ w = w' := by
  have h := wline_ok 0 x a w (by omega) hx ha (by omega) hx' (by omega)
  rw [Int.zero_mul, Int.zero_add] at h
  exact h

set_option maxHeartbeats 1600000 in
theorem WideTimes_walk (m : Int) (hm : (Lit.int .u64 m).wf = true) (x : Int) (hx : (Lit.int .u64 x).wf = true) (a : Int) (ha : (Lit.int .u64 a).wf = true) (w : World) :
    Calls Try.prog 4 #[.int .u64 m, .int .u64 x, .int .u64 a] w fun e w' => e = .returned (.bool true) ∧ Below w.heap.size w w' := by
  obtain ⟨m0, m1⟩ := bounds_u64 hm
  obtain ⟨x0, x1⟩ := bounds_u64 hx
  obtain ⟨a0, a1⟩ := bounds_u64 ha
  clear ha hm hx
  by_cases hz : m = 0
  · subst hz
    go_enter Try.func4, Try.ntmps4
    go_wp2_with fail
    refine (reckons_true _).mono ?_; rintro e w' ⟨rfl, hb1⟩
    go_wp2_with fail
    refine (wmul_zero _ _ x0 x1).mono ?_; rintro e w2 ⟨rfl, rfl⟩
    go_wp2_with fail
    refine (wline_zero _ _ _ x0 x1 a0 a1).mono ?_; rintro e w2 ⟨rfl, rfl⟩
    go_wp2_with fail
    refine (wsolve_zero _ _ _ a0 a1 (Int.le_refl _)).mono ?_; rintro e w2 ⟨rfl, rfl⟩
    go_wp2_with fail
    go_ret
    exact ⟨rfl, hb1⟩
  have hm1 : 1 ≤ m := by omega
  have hz' : (m == 0) = false := by rw [beq_eq_false_iff_ne]; omega
  have p0 : 0 ≤ m * x := Int.mul_nonneg m0 x0
  by_cases hp : m * x ≤ 18446744073709551615
  · have hov : decide (18446744073709551615 / m < x) = false := by
      have : x ≤ 18446744073709551615 / m := (Int.le_ediv_iff_mul_le (by omega)).2 (by rw [Int.mul_comm]; exact hp)
      simp; omega
    have e1 : m * x / m = x := Int.mul_ediv_cancel_left x hz
    have e2 : m * x % m = 0 := Int.mul_emod_right m x
    have c := fun w => wmul_ok m x w m0 x0 m1 x1 hp
    have d1 := fun (h : m * x + a ≤ 18446744073709551615) w => wline_ok m x a w m0 x0 a0 m1 x1 h
    have d2 := fun (h : 18446744073709551615 < m * x + a) w => wline_no m x a w m0 x0 a0 m1 x1 a1 h
    generalize m * x = p at *
    have hq : (p / m == x) = true := by rw [beq_iff_eq]; exact e1
    have hq' : (p / m != x) = false := by rw [bne_eq_false_iff_eq]; exact e1
    have hr : (p % m == 0) = true := by rw [beq_iff_eq]; exact e2
    have hr' : (p % m != 0) = false := by rw [bne_eq_false_iff_eq]; exact e2
    have C := Lib.hid c; have D1 := Lib.hid d1; have D2 := Lib.hid d2
    by_cases hs : p + a ≤ 18446744073709551615
    · have s1 := fun w => wsolve_ok m (p + a) a w hm1 m1 a0 hs (by omega) (by rw [Int.add_sub_cancel]; exact e2)
      rw [Int.add_sub_cancel, e1] at s1
      have S1 := Lib.hid s1
      clear c d1 d2 s1 e1 e2 hz
      go_enter Try.func4, Try.ntmps4
      go_wp2_with fail
      refine (reckons_true _).mono ?_; rintro e w' ⟨rfl, hb1⟩
      go_wp2_with fail
      refine (C.out _).mono ?_; rintro e w2 ⟨rfl, rfl⟩
      go_wp2_with fail
      refine (D1.out hs _).mono ?_; rintro e w2 ⟨rfl, rfl⟩
      go_wp2_with fail
      refine (S1.out _).mono ?_; rintro e w2 ⟨rfl, rfl⟩
      go_wp2_with fail
      go_ret
      exact ⟨rfl, hb1⟩
    · clear c d1 d2 e1 e2 hz
      go_enter Try.func4, Try.ntmps4
      go_wp2_with fail
      refine (reckons_true _).mono ?_; rintro e w' ⟨rfl, hb1⟩
      go_wp2_with fail
      refine (C.out _).mono ?_; rintro e w2 ⟨rfl, rfl⟩
      go_wp2_with fail
      refine (D2.out (by omega) _).mono ?_; rintro e w2 ⟨rfl, rfl⟩
      go_wp2_with fail
      go_ret
      exact ⟨rfl, hb1⟩
  · have hov : decide (18446744073709551615 / m < x) = true := by
      have : ¬ x ≤ 18446744073709551615 / m := fun h => hp (by rw [Int.mul_comm]; exact (Int.le_ediv_iff_mul_le (by omega)).1 h)
      simp; omega
    have c := fun w => wmul_no m x w m0 x0 m1 x1 (by omega)
    have d := fun w => wline_no m x a w m0 x0 a0 m1 x1 a1 (by omega)
    have C := Lib.hid c; have D := Lib.hid d
    clear c d hp p0 hz
    go_enter Try.func4, Try.ntmps4
    go_wp2_with fail
    refine (reckons_true _).mono ?_; rintro e w' ⟨rfl, hb1⟩
    go_wp2_with fail
    refine (C.out _).mono ?_; rintro e w2 ⟨rfl, rfl⟩
    go_wp2_with fail
    refine (D.out _).mono ?_; rintro e w2 ⟨rfl, rfl⟩
    go_wp2_with fail
    go_ret
    exact ⟨rfl, hb1⟩
end Go.Proofs.Ytmfjfjjdmgjoaaa
