/- guipurelaw04.reckons: the head of each of the six laws. -/
import Derived.Test.YtmfjfjjdmgjoaaaWideE
namespace Go.Proofs.Ytmfjfjjdmgjoaaa
open Go.RowKit Go.Lib

theorem rk_line (w : World) : Calls Try.prog 13 #[.int .u64 3, .int .u64 7, .int .u64 2] w fun e w' => e = .returned (.tuple #[.int .u64 23, .int .i64 0]) ∧ w = w' :=
  wline_ok 3 7 2 w (by omega) (by omega) (by omega) (by omega) (by omega) (by omega)
theorem rk_add (w : World) : Calls Try.prog 10 #[.int .u64 18446744073709551615, .int .u64 1] w fun e w' => e = .returned (.tuple #[.int .u64 0, .int .i64 40]) ∧ w = w' :=
  wadd_no _ 1 w (by omega) (by omega) (by omega) (by omega) (by omega)
theorem rk_sub (w : World) : Calls Try.prog 11 #[.int .u64 1, .int .u64 2] w fun e w' => e = .returned (.tuple #[.int .u64 0, .int .i64 40]) ∧ w = w' :=
  wsub_no 1 2 w (by omega)
theorem rk_solve (w : World) : Calls Try.prog 14 #[.int .u64 3, .int .u64 23, .int .u64 2] w fun e w' => e = .returned (.tuple #[.int .u64 7, .int .i64 0]) ∧ w = w' :=
  wsolve_ok 3 23 2 w (by omega) (by omega) (by omega) (by omega) (by omega) (by omega)
theorem rk_eval (w : World) : Calls Try.prog 18 #[.agg #[.string ⟨#[110]⟩, .int .u64 2, .int .u64 1], .int .u64 5] w fun e w' => e = .returned (.tuple #[.int .u64 11, .int .i64 0]) ∧ Below w.heap.size w w' :=
  weval_line 2 5 1 ⟨#[110]⟩ w (by rw [ByteArray.toList_eq]; rfl) (by omega) (by omega) (by omega) (by omega) (by omega) (by omega)
theorem rk_parse (w : World) : Calls Try.prog 16 #[.string ⟨#[49, 56, 52, 52, 54, 55, 52, 52, 48, 55, 51, 55, 48, 57, 53, 53, 49, 54, 49, 53]⟩] w fun e w' => e = .returned (.tuple #[.int .u64 18446744073709551615, .int .i64 0]) ∧ w = w' := by
  have e : parseS [49, 56, 52, 52, 54, 55, 52, 52, 48, 55, 51, 55, 48, 57, 53, 53, 49, 54, 49, 53] = (18446744073709551615, 0) := by decide +kernel
  have h := wparse ⟨#[49, 56, 52, 52, 54, 55, 52, 52, 48, 55, 51, 55, 48, 57, 53, 53, 49, 54, 49, 53]⟩ w (by unfold maxLen; decide)
  simp only [e] at h
  exact h
theorem rk_digits (w : World) : Calls Try.prog 15 #[.int .u64 0] w fun e w' => e = .returned (.string ⟨#[48]⟩) ∧ Below w.heap.size w w' :=
  wdigits 0 w (by omega)
theorem rk_within (w : World) : Calls Try.prog 19 #[.int .u64 5, .int .u64 5, .int .u64 5] w fun e w' => e = .returned (.bool true) ∧ w = w' :=
  wwithin 5 5 5 w

set_option maxHeartbeats 1600000 in
theorem reckons_true (w : World) :
    Calls Try.prog 9 #[] w fun e w' => e = .returned (.bool true) ∧ Below w.heap.size w w' := by
  go_enter Try.func9, Try.ntmps9
  go_wp2_with fail
  refine (rk_line _).mono ?_; rintro e w' ⟨rfl, rfl⟩
  go_wp2_with fail
  refine (rk_add _).mono ?_; rintro e w' ⟨rfl, rfl⟩
  go_wp2_with fail
  refine (rk_sub _).mono ?_; rintro e w' ⟨rfl, rfl⟩
  go_wp2_with fail
  refine (rk_solve _).mono ?_; rintro e w' ⟨rfl, rfl⟩
  go_wp2_with fail
  refine (rk_eval _).mono ?_; rintro e w1 ⟨rfl, hb1⟩
  go_wp2_with fail
  refine (rk_parse _).mono ?_; rintro e w' ⟨rfl, rfl⟩
  go_wp2_with fail
  refine (rk_digits _).mono ?_; rintro e w2 ⟨rfl, hb2⟩
  go_wp2_with fail
  refine (rk_within _).mono ?_; rintro e w' ⟨rfl, rfl⟩
  go_wp2_with fail
  go_ret
  exact ⟨rfl, hb1.trans (hb2.mono hb1.size)⟩
end Go.Proofs.Ytmfjfjjdmgjoaaa
