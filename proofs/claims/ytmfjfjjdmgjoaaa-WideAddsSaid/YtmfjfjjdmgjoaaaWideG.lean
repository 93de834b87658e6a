/- The laws WideAdds, WideTimes, WideSolves: their walks. -/
import Derived.Test.YtmfjfjjdmgjoaaaWideF
namespace Go.Proofs.Ytmfjfjjdmgjoaaa
open Go.RowKit Go.Lib

theorem ret_tt {x : Bool} (h : x = true) : Ending.returned (.bool x) = .returned (.bool true) := by rw [h]

set_option maxHeartbeats 1600000 in
theorem WideAdds_walk (a : Int) (ha : (Lit.int .u64 a).wf = true) (b : Int) (hb : (Lit.int .u64 b).wf = true) (w : World) :
    Calls Try.prog 3 #[.int .u64 a, .int .u64 b] w fun e w' => e = .returned (.bool true) ∧ Below w.heap.size w w' := by
  obtain ⟨a0, a1⟩ := bounds_u64 ha
  obtain ⟨b0, b1⟩ := bounds_u64 hb
  clear ha hb
  by_cases h1 : a + b ≤ 18446744073709551615 <;> by_cases h2 : a < b
  · go_enter Try.func3, Try.ntmps3
    go_wp2_with fail
    refine (reckons_true _).mono ?_; rintro e w' ⟨rfl, hb1⟩
    go_wp2_with fail
    refine (wadd_ok _ _ _ a0 b0 h1).mono ?_; rintro e w2 ⟨rfl, rfl⟩
    go_wp2_with fail
    refine (wsub_no _ _ _ h2).mono ?_; rintro e w2 ⟨rfl, rfl⟩
    go_wp2_with fail
    go_ret
    exact ⟨rfl, hb1⟩
  · go_enter Try.func3, Try.ntmps3
    go_wp2_with fail
    refine (reckons_true _).mono ?_; rintro e w' ⟨rfl, hb1⟩
    go_wp2_with fail
    refine (wadd_ok _ _ _ a0 b0 h1).mono ?_; rintro e w2 ⟨rfl, rfl⟩
    go_wp2_with fail
    refine (wsub_ok _ _ _ b0 a1 (by omega)).mono ?_; rintro e w2 ⟨rfl, rfl⟩
    go_wp2_with fail
    go_ret
    exact ⟨ret_tt (by rw [beq_iff_eq]; omega), hb1⟩
  · go_enter Try.func3, Try.ntmps3
    go_wp2_with fail
    refine (reckons_true _).mono ?_; rintro e w' ⟨rfl, hb1⟩
    go_wp2_with fail
    refine (wadd_no _ _ _ a0 b0 a1 b1 (by omega)).mono ?_; rintro e w2 ⟨rfl, rfl⟩
    go_wp2_with fail
    refine (wsub_no _ _ _ h2).mono ?_; rintro e w2 ⟨rfl, rfl⟩
    go_wp2_with fail
    go_ret
    exact ⟨rfl, hb1⟩
  · go_enter Try.func3, Try.ntmps3
    go_wp2_with fail
    refine (reckons_true _).mono ?_; rintro e w' ⟨rfl, hb1⟩
    go_wp2_with fail
    refine (wadd_no _ _ _ a0 b0 a1 b1 (by omega)).mono ?_; rintro e w2 ⟨rfl, rfl⟩
    go_wp2_with fail
    refine (wsub_ok _ _ _ b0 a1 (by omega)).mono ?_; rintro e w2 ⟨rfl, rfl⟩
    go_wp2_with fail
    go_ret
    exact ⟨ret_tt (by rw [beq_iff_eq]; omega), hb1⟩

set_option maxHeartbeats 1600000 in
theorem WideSolves_walk (m : Int) (hm : (Lit.int .u64 m).wf = true) (y : Int) (hy : (Lit.int .u64 y).wf = true) (a : Int) (ha : (Lit.int .u64 a).wf = true) (w : World) :
    Calls Try.prog 5 #[.int .u64 m, .int .u64 y, .int .u64 a] w fun e w' => e = .returned (.bool true) ∧ Below w.heap.size w w' := by
  obtain ⟨m0, m1⟩ := bounds_u64 hm
  obtain ⟨y0, y1⟩ := bounds_u64 hy
  obtain ⟨a0, a1⟩ := bounds_u64 ha
  clear ha hm hy
  by_cases h1 : y < a
  · go_enter Try.func5, Try.ntmps5
    go_wp2_with fail
    refine (reckons_true _).mono ?_; rintro e w' ⟨rfl, hb1⟩
    go_wp2_with fail
    refine (wsolve_over _ _ _ _ h1).mono ?_; rintro e w2 ⟨rfl, rfl⟩
    go_wp2_with fail
    go_ret
    exact ⟨rfl, hb1⟩
  have h1' : a ≤ y := by omega
  by_cases h2 : m = 0
  · subst h2
    go_enter Try.func5, Try.ntmps5
    go_wp2_with fail
    refine (reckons_true _).mono ?_; rintro e w' ⟨rfl, hb1⟩
    go_wp2_with fail
    refine (wsolve_zero _ _ _ a0 y1 h1').mono ?_; rintro e w2 ⟨rfl, rfl⟩
    go_wp2_with fail
    go_ret
    exact ⟨rfl, hb1⟩
  have hm1 : 1 ≤ m := by omega
  have hz : (m == 0) = false := by rw [beq_eq_false_iff_ne]; omega
  have hl : 0 ≤ y - a := by omega
  have hd0 : 0 ≤ (y - a) % m := Int.emod_nonneg _ (by omega)
  by_cases h3 : (y - a) % m = 0
  · have hq : ((y - a) % m == 0) = true := by rw [beq_iff_eq]; exact h3
    have hq' : ((y - a) % m != 0) = false := by rw [bne_eq_false_iff_eq]; exact h3
    have c := fun w => wsolve_ok m y a w hm1 m1 a0 y1 h1' h3
    have hx : m * ((y - a) / m) + a = y := by
      have := Int.mul_ediv_add_emod (y - a) m
      omega
    have hx0 : 0 ≤ (y - a) / m := Int.ediv_nonneg hl (by omega)
    have hx1 : (y - a) / m ≤ 18446744073709551615 := by
      have := Int.ediv_le_self m hl
      omega
    have d := fun w => wline_ok m ((y - a) / m) a w m0 hx0 a0 m1 hx1 (by omega)
    rw [hx] at d
    have C := Lib.hid c
    have D := Lib.hid d
    clear c d hx h3 h2
    go_enter Try.func5, Try.ntmps5
    go_wp2_with fail
    refine (reckons_true _).mono ?_; rintro e w' ⟨rfl, hb1⟩
    go_wp2_with fail
    refine (C.out _).mono ?_; rintro e w2 ⟨rfl, rfl⟩
    go_wp2_with fail
    refine (D.out _).mono ?_; rintro e w2 ⟨rfl, rfl⟩
    go_wp2_with fail
    go_ret
    exact ⟨rfl, hb1⟩
  · have h3' : 1 ≤ (y - a) % m := by omega
    have hq : ((y - a) % m == 0) = false := by rw [beq_eq_false_iff_ne]; exact h3
    have hq' : ((y - a) % m != 0) = true := by rw [bne_iff_ne]; exact h3
    go_enter Try.func5, Try.ntmps5
    go_wp2_with fail
    refine (reckons_true _).mono ?_; rintro e w' ⟨rfl, hb1⟩
    go_wp2_with fail
    refine (wsolve_missing _ _ _ _ hm1 a0 y1 h1' h3').mono ?_; rintro e w2 ⟨rfl, rfl⟩
    go_wp2_with fail
    go_ret
    exact ⟨rfl, hb1⟩
end Go.Proofs.Ytmfjfjjdmgjoaaa
