/- The law WideInts: its walk. -/
import Derived.Test.YtmfjfjjdmgjoaaaWideG
import Derived.ProofKit
import Derived.Lib.SmallJoins
import Derived.WalkSmall
namespace Go.Proofs.Ytmfjfjjdmgjoaaa
open Go.RowKit Go.Lib

theorem bcell {W w1 : World} (hb : Below W.heap.size W w1) : (∀ b o, b < W.heap.size → w1.cell? ⟨b, o, none⟩ = W.cell? ⟨b, o, none⟩) ∧ (∀ b o, b < W.heap.size → w1.frozen? ⟨b, o, none⟩ = W.frozen? ⟨b, o, none⟩) :=
  ⟨fun b o h => hb.cell (p := ⟨b, o, none⟩) h, fun b o h => hb.frozen (p := ⟨b, o, none⟩) h⟩

theorem within_cases (n m a : Int) :
    (decide (m ≤ n) = false ∧ ∀ w, Calls Try.prog 19 #[.int .u64 n, .int .u64 m, .int .u64 a] w fun e w' => e = .returned (.bool false) ∧ w' = w) ∨
    (decide (m ≤ n) = true ∧ decide (n ≤ a) = false ∧ ∀ w, Calls Try.prog 19 #[.int .u64 n, .int .u64 m, .int .u64 a] w fun e w' => e = .returned (.bool false) ∧ w' = w) ∨
    (decide (m ≤ n) = true ∧ decide (n ≤ a) = true ∧ ∀ w, Calls Try.prog 19 #[.int .u64 n, .int .u64 m, .int .u64 a] w fun e w' => e = .returned (.bool true) ∧ w' = w) := by
  have h := fun w => (wwithin n m a w).mono fun e w' (h : _ ∧ _) => (⟨h.1, h.2.symm⟩ : _ ∧ w' = w)
  generalize decide (m ≤ n) = b at *
  generalize decide (n ≤ a) = c at *
  cases b
  · exact .inl ⟨rfl, h⟩
  · cases c
    · exact .inr (.inl ⟨rfl, rfl, h⟩)
    · exact .inr (.inr ⟨rfl, rfl, h⟩)
theorem eval_cases (m n a V E : Int) (s : ByteArray) (m0 : 0 ≤ m) (n0 : 0 ≤ n) (a0 : 0 ≤ a) (m1 : m ≤ 18446744073709551615) (n1 : n ≤ 18446744073709551615) (a1 : a ≤ 18446744073709551615) (hV : lineV m n a = V) (hE : lineE m n a = E) :
    (s.toList.isEmpty = true ∧ ∀ w, Calls Try.prog 18 #[.agg #[.string s, .int .u64 m, .int .u64 a], .int .u64 n] w fun e w' => e = .returned (.tuple #[.int .u64 a, .int .i64 0]) ∧ Below w.heap.size w w') ∨
    (s.toList.isEmpty = false ∧ ∀ w, Calls Try.prog 18 #[.agg #[.string s, .int .u64 m, .int .u64 a], .int .u64 n] w fun e w' => e = .returned (.tuple #[.int .u64 V, .int .i64 E]) ∧ Below w.heap.size w w') := by
  subst hV; subst hE
  by_cases h : s.toList.isEmpty = true
  · exact .inl ⟨h, fun w => weval_plain m n a s w h⟩
  · have h' : s.toList.isEmpty = false := by simpa using h
    exact .inr ⟨h', fun w => weval_line m n a s w h' m0 n0 a0 m1 n1 a1⟩
theorem int_cases (n l : Int) (n0 : 0 ≤ n) (l1 : l ≤ 9223372036854775807) :
    (l < 0 ∧ ∀ w, Calls Try.prog 17 #[.int .u64 n, .int .i64 l] w fun e w' => e = .returned (.tuple #[.int .i64 0, .int .i64 40]) ∧ w = w') ∨
    (0 ≤ l ∧ l < n ∧ ∀ w, Calls Try.prog 17 #[.int .u64 n, .int .i64 l] w fun e w' => e = .returned (.tuple #[.int .i64 0, .int .i64 40]) ∧ w = w') ∨
    (0 ≤ l ∧ n ≤ l ∧ ∀ w, Calls Try.prog 17 #[.int .u64 n, .int .i64 l] w fun e w' => e = .returned (.tuple #[.int .i64 n, .int .i64 0]) ∧ w = w') := by
  by_cases h : l < 0
  · exact .inl ⟨h, fun w => wint_neg n l w h⟩
  by_cases h2 : l < n
  · exact .inr (.inl ⟨by omega, h2, fun w => wint_over n l w (by omega) l1 h2⟩)
  · exact .inr (.inr ⟨by omega, by omega, fun w => wint_ok n l w n0 (by omega) l1 (by omega)⟩)

set_option maxHeartbeats 12800000 in
theorem WideInts_go (n : Int) (hn : (Lit.int .u64 n).wf = true) (l : Int) (hl : (Lit.int .i64 l).wf = true) (s : ByteArray) (m : Int) (hm : (Lit.int .u64 m).wf = true) (a : Int) (ha : (Lit.int .u64 a).wf = true) (w : World) :
    Calls Try.prog 7 #[.int .u64 n, .int .i64 l, .agg #[.string s, .int .u64 m, .int .u64 a]] w fun e w' => e = .returned (.bool true) ∧ Below w.heap.size w w' := by
  obtain ⟨n0, n1⟩ := bounds_u64 hn
  obtain ⟨l0, l1⟩ := bounds_i64 hl
  obtain ⟨m0, m1⟩ := bounds_u64 hm
  obtain ⟨a0, a1⟩ := bounds_u64 ha
  clear hn hl hm ha
  have hline := fun w => wline_any m n a w m0 n0 a0 m1 n1 a1
  have hev := eval_cases m n a _ _ s m0 n0 a0 m1 n1 a1 rfl rfl
  generalize lineV m n a = V at hline hev
  generalize lineE m n a = E at hline hev
  have HL := Lib.hid hline
  clear hline
  rcases int_cases n l n0 l1 with ⟨i1, hi⟩ | ⟨i1, i2, hi⟩ | ⟨i1, i2, hi⟩
  all_goals
    have HI := Lib.hid hi
    clear hi
    rcases hev with ⟨r1, hev⟩ | ⟨r1, hev⟩
    all_goals
      have HE := Lib.hid hev
      clear hev
      rcases within_cases n m a with ⟨t1, ht⟩ | ⟨t1, t2, ht⟩ | ⟨t1, t2, ht⟩
      all_goals
        have HT := Lib.hid ht
        clear ht
        go_enter Try.func7, Try.ntmps7
        go_wp2_with fail
        refine (reckons_true _).mono ?_; rintro e w1 ⟨rfl, hb1⟩
        obtain ⟨hc1, hf1⟩ := bcell hb1
        go_wp2_with fail
        refine (HI.out _).mono ?_; rintro e w2 ⟨rfl, rfl⟩
        go_wp2_with fail
        refine (HE.out _).mono ?_; rintro e w2 ⟨rfl, hb2⟩
        obtain ⟨hc2, hf2⟩ := bcell hb2
        have hz1 : w.heap.size < w1.heap.size := by have := hb1.size; simp at this; omega
        have hA : Below w.heap.size w (w.alloc (.cells #[.string s, .int .u64 m, .int .u64 a] 34)) := (Below.refl _ _).alloc (Nat.le_refl _) _
        have HW := Lib.hid (hA.trans ((hb1.trans (hb2.mono hb1.size)).mono (by simp)))
        clear hA
        go_wp2_with fail
        refine (HL.out _).mono ?_; rintro e w3 ⟨rfl, rfl⟩
        go_wp2_with fail
        go_quiet ((go_at_call 19; exact Calls.quiet_of_same (HT.out _)))
        go_wp2_with fail
        go_ret
        exact ⟨rfl, below_drewN HW.out _⟩

theorem WideInts_walk (n : Int) (hn : (Lit.int .u64 n).wf = true) (l : Int) (hl : (Lit.int .i64 l).wf = true) {H : Type} {enc : TypeId × Value → H} {W : World} {spare : Nat → Bool} {held : Bool} (base : Nat) (v : Value) (d : DataW H) (p : List MemPlace)
    (hok : Value.okWide Try.prog W .any base 34 v) (ht : DataW.Trod enc Try.prog W 0 spare held 34 v d p) (w : World) :
    Calls Try.prog 7 #[.int .u64 n, .int .i64 l, v] w fun e w' => e = .returned (.bool true) ∧ Below w.heap.size w w' := by
  obtain ⟨c0, c1, c2, y0, y1, y2, k, rfl, rfl, rfl, g0, g1, g2⟩ := Joins.open_agg3 Try.underlying34 (by kernel_rfl) (by kernel_rfl) hok ht
  obtain ⟨s, e0, rfl, _⟩ := DataW.trod_string Try.underlying9 g0
  obtain ⟨m, e1, rfl, hm⟩ := DataW.trod_int Try.underlying22 g1
  obtain ⟨a, e2, rfl, ha⟩ := DataW.trod_int Try.underlying22 g2
  simp at e0 e1 e2
  subst e0 e1 e2
  exact WideInts_go n hn l hl s m hm a ha w
end Go.Proofs.Ytmfjfjjdmgjoaaa
