/- Package wide, as far as trees reach it: Add, Mul, Line, Digits, Parse. -/
import Derived.Test.YtdogiobppeemiaaProg
import Derived.WalkKit
import Derived.WalkSpells
import Derived.Laws.Externs
import Derived.Lib.Mul64
import Derived.Laws.Bits64b
import Derived.Lib.Hide
import Derived.OpenShut
import Derived.Handy
import Derived.Test.YtdogiobppeemiaaDig
import Derived.OwnWalk
import Derived.LoopTactic
import Derived.Laws.IdiomStrings
import Derived.Laws.NewBlocks
import Derived.BigQuiet
import Derived.Deep.QuietTactic
import Derived.RowKit3
namespace Go.Proofs.Ytdogiobppeemiaa
set_option linter.unusedSimpArgs false
set_option linter.unusedVariables false
set_option linter.unnecessarySimpa false
open Go.RowKit Go.Lib

theorem ret_pair {a b c d : Int} (h1 : a = b) (h2 : c = d) : Ending.returned (.tuple #[.int .u64 a, .int .i64 c]) = .returned (.tuple #[.int .u64 b, .int .i64 d]) := by rw [h1, h2]

/-- math/bits.Add64, the model's own entry. -/
theorem add64 (x y c : Int) (hx : 0 ≤ x) (hy : 0 ≤ y) (hc0 : 0 ≤ c) (hc : c ≤ 1) (w : World) : (callFunc 47 #[.int .u64 x, .int .u64 y, .int .u64 c]).run Try.prog w =
    .ok (.value (.tuple #[.int .u64 ((x + y + c) % 18446744073709551616), .int .u64 ((x + y + c) / 18446744073709551616)])) w := by
  rw [run_callFunc_extern Try.func47 (by kernel_rfl) (by kernel_rfl) (by kernel_rfl) (e := add64Entry) (by kernel_rfl), run_add64 x y c hx hy hc0 hc]
  rfl
theorem add64_0 (x y : Int) (hx : 0 ≤ x) (hy : 0 ≤ y) (w : World) : (callFunc 47 #[.int .u64 x, .int .u64 y, .int .u64 0]).run Try.prog w =
    .ok (.value (.tuple #[.int .u64 ((x + y) % 18446744073709551616), .int .u64 ((x + y) / 18446744073709551616)])) w := by
  simpa using add64 x y 0 hx hy (Int.le_refl 0) (by decide) w

/-- wide.Add: the sum. -/
theorem wadd_ok (a b : Int) (w : World) (ha : 0 ≤ a) (hb : 0 ≤ b) (h : a + b ≤ 18446744073709551615) :
    Calls Try.prog 43 #[.int .u64 a, .int .u64 b] w fun e w' => e = .returned (.tuple #[.int .u64 (a + b), .int .i64 0]) ∧ w = w' := by
  have e1 : (a + b) % 18446744073709551616 = a + b := by omega
  have e2 : (a + b) / 18446744073709551616 = 0 := by omega
  have c := fun w => add64_0 a b ha hb w
  rw [e1, e2] at c
  clear e1 e2
  go_enter Try.func43, Try.ntmps43
  go_wp2_with (simp only [c])
  go_ret2
  exact ⟨rfl, rfl⟩
theorem wadd_no (a b : Int) (w : World) (ha : 0 ≤ a) (hb : 0 ≤ b) (ha' : a ≤ 18446744073709551615) (hb' : b ≤ 18446744073709551615) (h : 18446744073709551615 < a + b) :
    Calls Try.prog 43 #[.int .u64 a, .int .u64 b] w fun e w' => e = .returned (.tuple #[.int .u64 0, .int .i64 40]) ∧ w = w' := by
  have e2 : (a + b) / 18446744073709551616 = 1 := by omega
  have c := fun w => add64_0 a b ha hb w
  rw [e2] at c
  clear e2
  go_enter Try.func43, Try.ntmps43
  go_wp2_with (simp only [c])
  go_ret2
  exact ⟨rfl, rfl⟩

/-! math/bits.Mul64: the library's own text, walked (the guide's own proof, at this program). -/
theorem maskN (a : Nat) (ha : a < 18446744073709551616) : bits .and .u64 (a : Int) 4294967295 = ((a % 4294967296 : Nat) : Int) := by
  have h := bits_and_u64_nat a 4294967295 ha (by omega)
  have e : a &&& 4294967295 = a % 4294967296 := Nat.and_two_pow_sub_one_eq_mod a 32
  rw [e] at h
  exact h
theorem divN (a : Nat) : (a : Int) / 4294967296 = ((a / 4294967296 : Nat) : Int) := by omega
theorem mulN (a b : Nat) : (a : Int) * (b : Int) = ((a * b : Nat) : Int) := (Int.natCast_mul a b).symm
theorem addN (a b : Nat) : (a : Int) + (b : Int) = ((a + b : Nat) : Int) := (Int.natCast_add a b).symm
theorem wrapN (a : Nat) (ha : a < 18446744073709551616) : IntKind.u64.wrap (a : Int) = (a : Int) := by rw [IntKind.wrap_u64]; omega
theorem wrapM (a : Nat) : IntKind.u64.wrap (a : Int) = ((a % 18446744073709551616 : Nat) : Int) := by rw [IntKind.wrap_u64]; omega

set_option maxHeartbeats 1000000 in
theorem mul64N (x y : Nat) (hx : x < 18446744073709551616) (hy : y < 18446744073709551616) (w : World) :
    Calls Try.prog 46 #[.int .u64 x, .int .u64 y] w fun e w' => e = .returned (.tuple #[.int .u64 ((x * y / 18446744073709551616 : Nat) : Int), .int .u64 ((x * y % 18446744073709551616 : Nat) : Int)]) ∧ w = w' := by
  obtain ⟨bd, bt, bw, hhi⟩ := Lib.mul64_hi x y hx hy
  have ba := Lib.half_mul_le (a := x / 4294967296) (b := y / 4294967296) (by omega) (by omega)
  have bb := Lib.half_mul_le (a := x / 4294967296) (b := y % 4294967296) (by omega) (by omega)
  have bc := Lib.half_mul_le (a := x % 4294967296) (b := y / 4294967296) (by omega) (by omega)
  have ba' : x / 4294967296 * (y / 4294967296) < 18446744073709551616 := by omega
  have bb' : x / 4294967296 * (y % 4294967296) < 18446744073709551616 := by omega
  have bc' : x % 4294967296 * (y / 4294967296) < 18446744073709551616 := by omega
  have bh1 : x / 4294967296 * (y / 4294967296) + (x / 4294967296 * (y % 4294967296) + x % 4294967296 * (y % 4294967296) / 4294967296) / 4294967296 < 18446744073709551616 := by omega
  have bh : x / 4294967296 * (y / 4294967296) + (x / 4294967296 * (y % 4294967296) + x % 4294967296 * (y % 4294967296) / 4294967296) / 4294967296 + ((x / 4294967296 * (y % 4294967296) + x % 4294967296 * (y % 4294967296) / 4294967296) % 4294967296 + x % 4294967296 * (y / 4294967296)) / 4294967296 < 18446744073709551616 := by omega
  go_enter Try.func46, Try.ntmps46
  go_wp2
  simp only [maskN x hx, maskN y hy, divN, mulN, addN, wrapN _ bd, wrapN _ bb', wrapN _ bt, maskN _ bt, wrapN _ bc', wrapN _ bw, wrapN _ ba', wrapN _ bh1, wrapN _ bh, wrapM (x * y)]
  rw [hhi]
  go_ret2
  exact ⟨rfl, rfl⟩

theorem mul64_any (x y : Int) (hx : 0 ≤ x) (hy : 0 ≤ y) (hx' : x ≤ 18446744073709551615) (hy' : y ≤ 18446744073709551615) (w : World) :
    Calls Try.prog 46 #[.int .u64 x, .int .u64 y] w fun e w' => e = .returned (.tuple #[.int .u64 (x * y / 18446744073709551616), .int .u64 (x * y % 18446744073709551616)]) ∧ w = w' := by
  obtain ⟨x, rfl⟩ := Int.eq_ofNat_of_zero_le hx
  obtain ⟨y, rfl⟩ := Int.eq_ofNat_of_zero_le hy
  exact mul64N x y (by omega) (by omega) w

/-- wide.Mul. -/
theorem wmul_ok (a b : Int) (w : World) (ha : 0 ≤ a) (hb : 0 ≤ b) (ha' : a ≤ 18446744073709551615) (hb' : b ≤ 18446744073709551615) (h : a * b ≤ 18446744073709551615) :
    Calls Try.prog 42 #[.int .u64 a, .int .u64 b] w fun e w' => e = .returned (.tuple #[.int .u64 (a * b), .int .i64 0]) ∧ w = w' := by
  have h0 : 0 ≤ a * b := Int.mul_nonneg ha hb
  have c := fun w => mul64_any a b ha hb ha' hb' w
  have e1 : a * b % 18446744073709551616 = a * b := by omega
  have e2 : a * b / 18446744073709551616 = 0 := by omega
  rw [e1, e2] at c
  have C := Lib.hid c
  clear c e1 e2
  go_enter Try.func42, Try.ntmps42
  go_wp2_with (go_at_call 46; refine (C.out _).mono ?_; rintro e w' ⟨rfl, rfl⟩)
  go_ret2
  exact ⟨rfl, rfl⟩
theorem wmul_no (a b : Int) (w : World) (ha : 0 ≤ a) (hb : 0 ≤ b) (ha' : a ≤ 18446744073709551615) (hb' : b ≤ 18446744073709551615) (h : 18446744073709551615 < a * b) :
    Calls Try.prog 42 #[.int .u64 a, .int .u64 b] w fun e w' => e = .returned (.tuple #[.int .u64 0, .int .i64 40]) ∧ w = w' := by
  have c := fun w => mul64_any a b ha hb ha' hb' w
  have k : 0 < a * b / 18446744073709551616 := by omega
  generalize a * b / 18446744073709551616 = hi at *
  have C := Lib.hid c
  clear c h
  go_enter Try.func42, Try.ntmps42
  go_wp2_with (go_at_call 46; refine (C.out _).mono ?_; rintro e w' ⟨rfl, rfl⟩)
  go_ret2
  exact ⟨rfl, rfl⟩
/-- wide.Line. -/
theorem wline_ok (m x a : Int) (w : World) (hm : 0 ≤ m) (hx : 0 ≤ x) (ha : 0 ≤ a) (hm' : m ≤ 18446744073709551615) (hx' : x ≤ 18446744073709551615) (h : m * x + a ≤ 18446744073709551615) :
    Calls Try.prog 39 #[.int .u64 m, .int .u64 x, .int .u64 a] w fun e w' => e = .returned (.tuple #[.int .u64 (m * x + a), .int .i64 0]) ∧ w = w' := by
  have h0 : 0 ≤ m * x := Int.mul_nonneg hm hx
  have h1 : m * x ≤ 18446744073709551615 := by omega
  have c := fun w => wmul_ok m x w hm hx hm' hx' h1
  generalize m * x = p at *
  have C := Lib.hid c
  clear c
  go_enter Try.func39, Try.ntmps39
  go_wp2_with (first | (go_at_call 42; refine (C.out _).mono ?_; rintro e w' ⟨rfl, rfl⟩) | (go_at_call 43; refine (wadd_ok _ _ _ h0 ha h).mono ?_; rintro e w' ⟨rfl, rfl⟩))
  go_ret2
  exact ⟨rfl, rfl⟩
theorem wline_no (m x a : Int) (w : World) (hm : 0 ≤ m) (hx : 0 ≤ x) (ha : 0 ≤ a) (hm' : m ≤ 18446744073709551615) (hx' : x ≤ 18446744073709551615) (ha' : a ≤ 18446744073709551615) (h : 18446744073709551615 < m * x + a) :
    Calls Try.prog 39 #[.int .u64 m, .int .u64 x, .int .u64 a] w fun e w' => e = .returned (.tuple #[.int .u64 0, .int .i64 40]) ∧ w = w' := by
  by_cases h1 : m * x ≤ 18446744073709551615
  · have h0 : 0 ≤ m * x := Int.mul_nonneg hm hx
    have c := fun w => wmul_ok m x w hm hx hm' hx' h1
    generalize m * x = p at *
    have C := Lib.hid c
    clear c
    go_enter Try.func39, Try.ntmps39
    go_wp2_with (first | (go_at_call 42; refine (C.out _).mono ?_; rintro e w' ⟨rfl, rfl⟩) | (go_at_call 43; refine (wadd_no _ _ _ h0 ha h1 ha' h).mono ?_; rintro e w' ⟨rfl, rfl⟩))
    go_ret2
    exact ⟨rfl, rfl⟩
  · have c := fun w => wmul_no m x w hm hx hm' hx' (by omega)
    have C := Lib.hid c
    clear c h h1
    go_enter Try.func39, Try.ntmps39
    go_wp2_with (go_at_call 42; refine (C.out _).mono ?_; rintro e w' ⟨rfl, rfl⟩)
    go_ret2
    exact ⟨rfl, rfl⟩

theorem ret_str {a b : List UInt8} (h : a = b) : Ending.returned (.string ⟨a.toArray⟩) = .returned (.string ⟨b.toArray⟩) := by rw [h]

/-- What the buffer holds while the digits are written from its end: the last ones are acc. -/
structure DigBuf (B k : Nat) (acc : List UInt8) (w : World) : Prop where
  len : k + acc.length = 20
  cell : ∀ j, j < 20 → ∃ v, w.cell? ⟨B, j, none⟩ = some v
  free : ∀ j, j < 20 → w.frozen? ⟨B, j, none⟩ = false
  at_ : ∀ j (h : j < acc.length), w.cell? ⟨B, k + j, none⟩ = some (.int .u8 (acc[j].toNat : Int))

theorem DigBuf.store {B k : Nat} {acc : List UInt8} {w : World} (h : DigBuf B (k + 1) acc w) (c : UInt8) (v : Value) (hv : v = .int .u8 (c.toNat : Int)) :
    DigBuf B k (c :: acc) (w.setCell ⟨B, k, none⟩ v) := by
  have hk : k < 20 := by have := h.len; omega
  obtain ⟨v0, hv0⟩ := h.cell k hk
  refine ⟨by have := h.len; simp; omega, fun j hj => ?_, fun j hj => ?_, fun j hj => ?_⟩
  · obtain ⟨v1, hv1⟩ := h.cell j hj
    exact cell?_setCell_some hv1
  · rw [World.frozen?_setCell]; exact h.free j hj
  · subst hv
    cases j with
    | zero => simpa using World.cell?_setCell_same w _ _ hv0
    | succ j =>
      have hj' : j < acc.length := by simpa using hj
      have := h.at_ j hj'
      rw [World.cell?_setCell_other w _ _ _ (by simp)]
      rw [show k + (j + 1) = k + 1 + j from by omega]
      simpa using this

theorem DigBuf.last {B k : Nat} {acc : List UInt8} {w : World} (h : DigBuf B k acc w) (hs : Try.prog.underlying 23 = some (.slice 5)) (he : Try.prog.underlying 5 = some (.int .u8)) (hd : Try.prog.underlying 9 = some .string) :
    (convert 23 9 (.slice (some ⟨B, k, none⟩) (20 - k) (20 - k))).run Try.prog w = .ok (.string ⟨acc.toArray⟩) w := by
  have e : acc.length = 20 - k := by have := h.len; omega
  have := run_convert_bytes_back (P := Try.prog) w 23 9 5 ⟨B, k, none⟩ (20 - k) acc hs he hd (fun j hj => by rw [Addr.add_lit]; exact h.at_ j hj)
  rw [e] at this
  exact this

theorem dig_next (m : Nat) (h : (((m : Int) / 10) == 0) = false) (f : Nat) (acc : List UInt8) : digLoop (f + 1) m acc = digLoop f (m / 10) (digB m :: acc) := by
  have : m / 10 ≠ 0 := by have := beq_eq_false_iff_ne.1 h; omega
  show (if m / 10 = 0 then _ else _) = _
  rw [if_neg this]
theorem dig_stop (m : Nat) (h : (((m : Int) / 10) == 0) = true) (f : Nat) (acc : List UInt8) : digLoop (f + 1) m acc = digB m :: acc := by
  have : m / 10 = 0 := by have := beq_iff_eq.1 h; omega
  show (if m / 10 = 0 then _ else _) = _
  rw [if_pos this]
theorem dig_val (m : Nat) : Value.int .u8 (48 + (m : Int) % 10) = .int .u8 ((digB m).toNat : Int) := by
  rw [digB_toNat]; congr 1

/-- The state of the loop of Digits at a round's head. -/
def DigInv (n B : Nat) (w0 : World) (v i : Value) (w : World) : Prop :=
  ∃ (k m : Nat) (acc : List UInt8), i = .int .i64 ((k + 1 : Nat) : Int) ∧ v = .int .u64 (m : Int) ∧ m < 10 ^ (k + 1) ∧ m < 18446744073709551616 ∧ digLoop (k + 1) m acc = digs n ∧ DigBuf B (k + 1) acc w ∧ Below B w0 w

theorem DigInv.next {n B k m : Nat} {w0 w : World} {acc : List UInt8} (hm : m < 10 ^ (k + 1)) (hM : m < 18446744073709551616) (hd : digLoop (k + 1) m acc = digs n) (hb : DigBuf B (k + 1) acc w) (hB : Below B w0 w)
    (h : (((m : Int) / 10) == 0) = false) : DigInv n B w0 (.int .u64 ((m : Int) / 10)) (.int .i64 (k : Int)) (w.setCell ⟨B, k, none⟩ (.int .u8 (48 + (m : Int) % 10))) := by
  have h1 : m / 10 ≠ 0 := by have := beq_eq_false_iff_ne.1 h; omega
  have h3 : m / 10 < 10 ^ k := by rw [Nat.pow_succ] at hm; omega
  cases k with
  | zero => simp at h3; omega
  | succ k => exact ⟨k, m / 10, digB m :: acc, rfl, by congr 1, h3, by omega, by rw [← hd, dig_next m h], hb.store _ _ (dig_val m), hB.setCell (Nat.le_refl _) _⟩

theorem DigBuf.init (w : World) : DigBuf w.heap.size 20 [] (w.alloc (.cells #[.int .u8 0, .int .u8 0, .int .u8 0, .int .u8 0, .int .u8 0, .int .u8 0, .int .u8 0, .int .u8 0, .int .u8 0, .int .u8 0, .int .u8 0, .int .u8 0, .int .u8 0, .int .u8 0, .int .u8 0, .int .u8 0, .int .u8 0, .int .u8 0, .int .u8 0, .int .u8 0] 77)) := by
  refine ⟨rfl, fun j hj => ?_, fun j hj => ?_, fun j hj => by simp at hj⟩
  · rw [World.cell?_alloc_mark]
    refine ⟨_, Array.getElem?_eq_getElem (by simpa using hj)⟩
  · rw [World.frozen?_alloc_mark]; simp

set_option maxHeartbeats 400000 in
theorem wdigits (n : Nat) (w : World) (h : n < 18446744073709551616) :
    Calls Try.prog 38 #[.int .u64 n] w fun e w' => e = .returned (.string ⟨(digs n).toArray⟩) ∧ Below w.heap.size w w' := by
  go_enter Try.func38, Try.ntmps38
  go_wp2
  go_loopw [0, 4] (fun v i wr => DigInv n w.heap.size w v i wr) (fun _ i _ => (intOf i).toNat)
  case atStart => exact ⟨19, n, [], rfl, rfl, by omega, h, rfl, DigBuf.init w, (Below.refl _ _).alloc (Nat.le_refl _) _⟩
  case round =>
    obtain ⟨k, m, acc, rfl, rfl, hp, hm, hd, hb, hB⟩ := hrel
    have hk : k < 20 := by have := hb.len; omega
    obtain ⟨v0, hc⟩ := hb.cell k hk
    have hf := hb.free k hk
    have hsl : ∀ W, (Instr.sliceAt 77 (.pointer (some ⟨w.heap.size, 0, none⟩)) (some (.int .i64 (k : Int))) none none).run Try.prog W = .ok (.slice (some ⟨w.heap.size, k, none⟩) (20 - k) (20 - k)) W := by
      intro W
      have e : Try.prog.arrayLen 77 = 20 := by kernel_rfl
      have hz : (sizeOf (Try.prog.elem 77)).run Try.prog W = .ok 1 W := by kernel_rfl
      rw [run_sliceAt_array_l W 77 _ Try.underlying77 .i64 k (by omega) (by rw [e]; omega), hz, e]
      simp only [Result.andThen, slicedAt]
      rw [if_neg (by omega), Addr.add_lit]
      simp
    have hcv := (hb.store (digB m) _ (dig_val m)).last Try.underlying23 Try.underlying5 Try.underlying9
    have hn := fun h => DigInv.next (n := n) hp hm hd hb hB h
    have hs := fun h => dig_stop m h k acc
    have HD := Lib.hid hd; have HN := Lib.hid hn; have HS := Lib.hid hs
    clear hd hn hs
    go_wp2
    · go_ret
      have e1 : digB m :: acc = digs n := by rw [← HD.out, HS.out (by assumption)]
      exact ⟨ret_str e1, hB.setCell (Nat.le_refl _) _⟩
    · exact ⟨HN.out (by assumption), by simp [intOf]⟩
/-- The loop of Parse, from a number on. -/
def parseLoop : List UInt8 → Nat → Bool → Int × Int
  | [], n, g => if g = true then (0, 40) else ((n : Int), 0)
  | c :: r, n, g =>
    if isDig c = true then
      if 10 * n + (c.toNat - 48) ≤ 18446744073709551615 then parseLoop r (10 * n + (c.toNat - 48)) g else parseLoop r 0 true
    else (0, 5)
def parseBad (l : List UInt8) : Bool := match l with
  | [] => true
  | [_] => false
  | c :: _ :: _ => decide (c.toNat = 48)
def parseS (l : List UInt8) : Int × Int := if parseBad l = true then (0, 5) else parseLoop l 0 false

theorem parseLoop_dig {c : UInt8} {r : List UInt8} {n : Nat} {g : Bool} (hc : isDig c = true) (h : 10 * n + (c.toNat - 48) ≤ 18446744073709551615) :
    parseLoop (c :: r) n g = parseLoop r (10 * n + (c.toNat - 48)) g := by
  rw [parseLoop, if_pos hc, if_pos h]
theorem parseLoop_great {c : UInt8} {r : List UInt8} {n : Nat} {g : Bool} (hc : isDig c = true) (h : ¬ 10 * n + (c.toNat - 48) ≤ 18446744073709551615) :
    parseLoop (c :: r) n g = parseLoop r 0 true := by
  rw [parseLoop, if_pos hc, if_neg h]
theorem parseLoop_bad {c : UInt8} {r : List UInt8} {n : Nat} {g : Bool} (hc : ¬ isDig c = true) : parseLoop (c :: r) n g = (0, 5) := by
  rw [parseLoop, if_neg hc]

/-- The state of Parse's loop at a round's head. -/
def ParseInv (s : ByteArray) (i v g : Value) : Prop :=
  ∃ (k n : Nat) (b : Bool), i = .int .i64 (k : Int) ∧ v = .int .u64 (n : Int) ∧ g = .bool b ∧ k ≤ s.size ∧ n < 18446744073709551616 ∧ parseLoop (s.data.toList.drop k) n b = parseS s.data.toList

theorem drop_at (s : ByteArray) (k : Nat) (h : k < s.size) : s.data.toList.drop k = s[k] :: s.data.toList.drop (k + 1) := by
  rw [List.drop_eq_getElem_cons (by simpa using h)]; rfl

theorem ret_pi {a b c d : Int} (h : (a, c) = (b, d)) : Ending.returned (.tuple #[.int .u64 a, .int .i64 c]) = .returned (.tuple #[.int .u64 b, .int .i64 d]) := by
  simp only [Prod.mk.injEq] at h; rw [h.1, h.2]

set_option maxHeartbeats 1600000 in
theorem wparse (s : ByteArray) (w : World) (hs : s.size ≤ maxLen) :
    Calls Try.prog 33 #[.string s] w fun e w' => e = .returned (.tuple #[.int .u64 (parseS s.data.toList).1, .int .i64 (parseS s.data.toList).2]) ∧ w = w' := by
  unfold maxLen at hs
  by_cases h0 : s.data.toList = []
  · have e1 : parseS s.data.toList = (0, 5) := by rw [h0]; rfl
    have E1 := Lib.hid e1
    have he : s.toList.isEmpty = true := by rw [ByteArray.toList_eq, h0]; rfl
    clear e1 h0
    go_enter Try.func33, Try.ntmps33
    go_wp2
    go_ret2
    exact ⟨ret_pi (by rw [E1.out]), rfl⟩
  have hsz : 0 < s.size := by
    rcases Nat.eq_zero_or_pos s.size with h | h
    · exact absurd (by simpa [← List.length_eq_zero_iff] using h) h0
    · exact h
  have he : s.toList.isEmpty = false := by rw [ByteArray.toList_eq]; simpa using h0
  have hcases : (parseBad s.data.toList = false ∧ (s.size = 1 ∨ 1 < s.size ∧ ((s[0].toNat : Int) == 48) = false)) ∨ (parseBad s.data.toList = true ∧ 1 < s.size ∧ ((s[0].toNat : Int) == 48) = true) := by
    have hl : s.size = s.data.toList.length := by simp
    have h1 := drop_at s 0 hsz
    simp only [List.drop_zero] at h1
    rcases Nat.lt_or_ge 1 s.size with h | h
    · have h2 := drop_at s 1 h
      rw [h2] at h1
      rw [h1]
      simp only [parseBad]
      by_cases hc : s[0].toNat = 48
      · exact .inr ⟨by simp [hc], h, by simp [hc]⟩
      · exact .inl ⟨by simp [hc], .inr ⟨h, by simp; omega⟩⟩
    · have h3 : s.data.toList.drop (0 + 1) = [] := List.drop_eq_nil_of_le (by omega)
      rw [h3] at h1
      rw [h1]
      exact .inl ⟨rfl, .inl (by omega)⟩
  clear h0
  rcases hcases with ⟨hb, hc⟩ | ⟨hb, hl, hc⟩
  · have hI : ParseInv s (.int .i64 0) (.int .u64 0) (.bool false) := ⟨0, 0, false, rfl, rfl, rfl, by omega, by omega, by rw [parseS, hb]; rfl⟩
    have HI := Lib.hid hI
    clear hI hb
    have hc' : ¬ 1 < s.size ∨ 1 < s.size ∧ ((s[0].toNat : Int) == 48) = false := by
      rcases hc with hc | hc
      · exact .inl (by omega)
      · exact .inr hc
    clear hc
    rcases hc' with hc | ⟨hl, hc⟩
    all_goals
      go_enter Try.func33, Try.ntmps33
      go_wp2
      clear hc
      go_loop [23, 4, 5] (fun i v g => ParseInv s i v g) (fun i _ _ => s.size - (intOf i).toNat)
      case atStart => exact HI.out
      case round =>
        obtain ⟨k, n, b, rfl, rfl, rfl, hk, hn, hp⟩ := hrel
        by_cases hlt : k < s.size
        · have hd := drop_at s k hlt
          rw [hd] at hp
          by_cases c1 : (s[k].toNat : Int) < 48
          · have hq : parseS s.data.toList = (0, 5) := by rw [← hp]; exact parseLoop_bad (fun h => by have := isDig_iff h; omega)
            have HQ := Lib.hid hq
            clear hp hd hq
            go_wp2
            go_ret2
            exact ⟨ret_pi (by rw [HQ.out]), rfl⟩
          by_cases c2 : 57 < (s[k].toNat : Int)
          · have hq : parseS s.data.toList = (0, 5) := by rw [← hp]; exact parseLoop_bad (fun h => by have := isDig_iff h; omega)
            have HQ := Lib.hid hq
            clear hp hd hq
            go_wp2
            go_ret2
            exact ⟨ret_pi (by rw [HQ.out]), rfl⟩
          have hdig : isDig s[k] = true := by simp [isDig]; omega
          by_cases c3 : 10 * n + (s[k].toNat - 48) ≤ 18446744073709551615
          · have hnext : ParseInv s (.int .i64 ((k : Int) + 1)) (.int .u64 (10 * (n : Int) + ((s[k].toNat : Int) - 48))) (.bool b) :=
              ⟨k + 1, 10 * n + (s[k].toNat - 48), b, rfl, by congr 1; omega, rfl, by omega, by omega, by rw [← hp, parseLoop_dig hdig c3]⟩
            have HN := Lib.hid hnext
            clear hp hd hnext hdig
            go_wp2_with (go_at_call 39; refine (wline_ok _ _ _ _ (by omega) (by omega) (by omega) (by omega) (by omega) (by omega)).mono ?_; rintro e w' ⟨rfl, rfl⟩)
            exact ⟨HN.out, by simp [intOf]; omega⟩
          · have hnext : ParseInv s (.int .i64 ((k : Int) + 1)) (.int .u64 0) (.bool true) :=
              ⟨k + 1, 0, true, rfl, rfl, rfl, by omega, by omega, by rw [← hp, parseLoop_great hdig c3]⟩
            have HN := Lib.hid hnext
            clear hp hd hnext hdig
            go_wp2_with (go_at_call 39; refine (wline_no _ _ _ _ (by omega) (by omega) (by omega) (by omega) (by omega) (by omega) (by omega)).mono ?_; rintro e w' ⟨rfl, rfl⟩)
            exact ⟨HN.out, by simp [intOf]; omega⟩
        · have hk' : k = s.size := by omega
          have hend : parseS s.data.toList = if b = true then (0, 40) else ((n : Int), 0) := by
            rw [← hp, List.drop_eq_nil_of_le (by simp; omega)]; rfl
          have HE := Lib.hid hend
          clear hp hend hk'
          cases b
          all_goals
            go_wp2
            go_ret2
            exact ⟨ret_pi (by rw [HE.out]; rfl), rfl⟩
  · have e1 : parseS s.data.toList = (0, 5) := by rw [parseS, hb]; rfl
    have E1 := Lib.hid e1
    clear e1 hb
    go_enter Try.func33, Try.ntmps33
    go_wp2
    go_ret2
    exact ⟨ret_pi (by rw [E1.out]), rfl⟩
/-- A number that is read has no more than 20 digits, if no nought is ahead. -/
theorem pow_step (v x n : Nat) : v * 10 ^ (n + 1) ≤ (v * 10 + x) * 10 ^ n := by
  rw [Nat.pow_succ, Nat.mul_comm (10 ^ n) 10, ← Nat.mul_assoc]
  exact Nat.mul_le_mul_right _ (Nat.le_add_right _ _)
theorem valOf_ge (r : List UInt8) : ∀ v : Nat, v * 10 ^ r.length ≤ valOf v r := by
  induction r with
  | nil => intro v; rw [List.length_nil, Nat.pow_zero, Nat.mul_one]; exact Nat.le_refl _
  | cons c r ih =>
    intro v
    rw [valOf_cons, List.length_cons, dstep_eq]
    generalize c.toNat - 48 = x
    have := ih (v * 10 + x)
    exact Nat.le_trans (pow_step v x r.length) this
theorem pow_big (n : Nat) (h : 10 ^ n < 18446744073709551616) : n < 20 := by
  rcases Nat.lt_or_ge n 20 with h1 | h1
  · exact h1
  · have h2 := Nat.pow_le_pow_right (n := 10) (by omega) h1
    have h3 : 10 ^ 20 = 100000000000000000000 := by decide
    rw [h3] at h2
    omega
theorem length_of_valOf (l : List UInt8) (h : valOf 0 l < 18446744073709551616) (hd : ∀ c ∈ l, isDig c = true) (hz : ∀ c r, l = c :: r → r = [] ∨ c.toNat ≠ 48) : l.length ≤ 20 := by
  cases l with
  | nil => simp
  | cons c r =>
    rcases hz c r rfl with h0 | h0
    · subst h0; simp
    · have hc := isDig_iff (hd c (by simp))
      rw [valOf_cons] at h
      have h1 : 1 ≤ dstep 0 c := by rw [dstep_eq]; omega
      generalize dstep 0 c = x at h h1
      have h2 := valOf_ge r x
      have h3 : 1 * 10 ^ r.length ≤ x * 10 ^ r.length := Nat.mul_le_mul_right _ h1
      have h4 : 10 ^ r.length < 18446744073709551616 := by
        rw [Nat.one_mul] at h3
        exact Nat.lt_of_le_of_lt (Nat.le_trans h3 h2) h
      have h5 := pow_big _ h4
      rw [List.length_cons]; omega

theorem isDig_or (c : UInt8) (r : List UInt8) (n : Nat) (g : Bool) (h : ¬ isDig c = true) : parseLoop (c :: r) n g = (0, 5) := parseLoop_bad h

/-- Parse's loop over digits that are read as a number that fits. -/
theorem parseLoop_val (l : List UInt8) : ∀ n : Nat, (∀ c ∈ l, isDig c = true) → valOf n l < 18446744073709551616 → parseLoop l n false = ((valOf n l : Int), 0) := by
  induction l with
  | nil => intro n _ _; rfl
  | cons c r ih =>
    intro n hd hv
    rw [valOf_cons] at hv ⊢
    have h4 : 10 * n + (c.toNat - 48) = dstep n c := by rw [dstep_eq, Nat.mul_comm]
    have hge := valOf_ge r (dstep n c)
    have h1 : 1 ≤ 10 ^ r.length := Nat.one_le_pow _ _ (by omega)
    have h2 : dstep n c * 1 ≤ dstep n c * 10 ^ r.length := Nat.mul_le_mul_left _ h1
    have h3 : 10 * n + (c.toNat - 48) ≤ 18446744073709551615 := by
      rw [h4]
      rw [Nat.mul_one] at h2
      exact Nat.le_of_lt_succ (Nat.lt_of_le_of_lt (Nat.le_trans h2 hge) hv)
    rw [parseLoop_dig (hd c (by simp)) h3, h4]
    exact ih _ (fun x hx => hd x (by simp [hx])) hv
theorem parseBad_head (l : List UInt8) (h : parseBad l = false) : l ≠ [] ∧ ∀ c r, l = c :: r → r = [] ∨ c.toNat ≠ 48 := by
  match l, h with
  | [c], _ => exact ⟨by simp, fun c' r e => by simp at e; exact .inl e.2⟩
  | c :: d :: r, h =>
    refine ⟨by simp, fun c' r' e => ?_⟩
    simp only [List.cons.injEq] at e
    obtain ⟨rfl, rfl⟩ := e
    right
    simpa [parseBad] using h
theorem parseBad_of (l : List UInt8) (h : l ≠ []) (hz : ∀ c r, l = c :: r → r = [] ∨ c.toNat ≠ 48) : parseBad l = false := by
  match l, h with
  | [c], _ => rfl
  | c :: d :: r, _ =>
    have := hz c (d :: r) rfl
    simp at this
    simp [parseBad, this]
theorem parseS_digs (n : Nat) (h : n < 18446744073709551616) : parseS (digs n) = ((n : Int), 0) := by
  have hb := parseBad_of (digs n) (digs_ne n) (digs_head n h)
  unfold parseS
  rw [hb]
  have := parseLoop_val (digs n) 0 (digs_dig n) (by rw [valOf_digs n h]; exact h)
  rw [valOf_digs n h] at this
  exact this

end Go.Proofs.Ytdogiobppeemiaa
