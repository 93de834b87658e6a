/- wide.Int, wide.Eval, wide.Sum. -/
import Derived.Test.YtmfjfjjdmgjoaaaWideB
import Derived.Below
namespace Go.Proofs.Ytmfjfjjdmgjoaaa
open Go.RowKit Go.Lib

/-- wide.Int. -/
theorem wint_ok (n l : Int) (w : World) (h0 : 0 ≤ n) (hl0 : 0 ≤ l) (hl : l ≤ 9223372036854775807) (h : n ≤ l) :
    Calls Try.prog 17 #[.int .u64 n, .int .i64 l] w fun e w' => e = .returned (.tuple #[.int .i64 n, .int .i64 0]) ∧ w = w' := by
  go_enter Try.func17, Try.ntmps17
  go_wp2
  go_ret2
  exact ⟨rfl, rfl⟩
theorem wint_neg (n l : Int) (w : World) (h : l < 0) :
    Calls Try.prog 17 #[.int .u64 n, .int .i64 l] w fun e w' => e = .returned (.tuple #[.int .i64 0, .int .i64 40]) ∧ w = w' := by
  go_enter Try.func17, Try.ntmps17
  go_wp2
  go_ret2
  exact ⟨rfl, rfl⟩
theorem wint_over (n l : Int) (w : World) (hl0 : 0 ≤ l) (hl : l ≤ 9223372036854775807) (h : l < n) :
    Calls Try.prog 17 #[.int .u64 n, .int .i64 l] w fun e w' => e = .returned (.tuple #[.int .i64 0, .int .i64 40]) ∧ w = w' := by
  go_enter Try.func17, Try.ntmps17
  go_wp2
  go_ret2
  exact ⟨rfl, rfl⟩

/-- What Line gives. -/
def lineV (m x a : Int) : Int := if m * x + a ≤ 18446744073709551615 then m * x + a else 0
def lineE (m x a : Int) : Int := if m * x + a ≤ 18446744073709551615 then 0 else 40
theorem wline_any (m x a : Int) (w : World) (hm : 0 ≤ m) (hx : 0 ≤ x) (ha : 0 ≤ a) (hm' : m ≤ 18446744073709551615) (hx' : x ≤ 18446744073709551615) (ha' : a ≤ 18446744073709551615) :
    Calls Try.prog 13 #[.int .u64 m, .int .u64 x, .int .u64 a] w fun e w' => e = .returned (.tuple #[.int .u64 (lineV m x a), .int .i64 (lineE m x a)]) ∧ w = w' := by
  unfold lineV lineE
  by_cases h : m * x + a ≤ 18446744073709551615
  · rw [if_pos h, if_pos h]; exact wline_ok m x a w hm hx ha hm' hx' h
  · rw [if_neg h, if_neg h]; exact wline_no m x a w hm hx ha hm' hx' ha' (by omega)

/-- wide.Eval: of an expression without a name its Add, else the line. -/
theorem weval_plain (m x a : Int) (s : ByteArray) (w : World) (hs : s.toList.isEmpty = true) :
    Calls Try.prog 18 #[.agg #[.string s, .int .u64 m, .int .u64 a], .int .u64 x] w fun e w' => e = .returned (.tuple #[.int .u64 a, .int .i64 0]) ∧ Below w.heap.size w w' := by
  go_enter Try.func18, Try.ntmps18
  go_wp2
  go_ret2
  exact ⟨rfl, (Below.refl _ _).alloc (Nat.le_refl _) _⟩
theorem weval_line (m x a : Int) (s : ByteArray) (w : World) (hs : s.toList.isEmpty = false) (hm : 0 ≤ m) (hx : 0 ≤ x) (ha : 0 ≤ a) (hm' : m ≤ 18446744073709551615) (hx' : x ≤ 18446744073709551615) (ha' : a ≤ 18446744073709551615) :
    Calls Try.prog 18 #[.agg #[.string s, .int .u64 m, .int .u64 a], .int .u64 x] w fun e w' => e = .returned (.tuple #[.int .u64 (lineV m x a), .int .i64 (lineE m x a)]) ∧ Below w.heap.size w w' := by
  go_enter Try.func18, Try.ntmps18
  go_wp2_with (go_at_call 13; refine (wline_any _ _ _ _ hm hx ha hm' hx' ha').mono ?_; rintro e w' ⟨rfl, rfl⟩)
  go_ret2
  exact ⟨rfl, (Below.refl _ _).alloc (Nat.le_refl _) _⟩
end Go.Proofs.Ytmfjfjjdmgjoaaa
