/- The law WideSums: its walk. -/
import Derived.Test.YtmfjfjjdmgjoaaaWideG
import Derived.Test.YtmfjfjjdmgjoaaaWideC
import Derived.ProofKit
import Derived.OpenShut
namespace Go.Proofs.Ytmfjfjjdmgjoaaa
open Go.RowKit Go.Lib

/-- What the walk is told of a slice of integers that came in: it is nil; or it leads to a row of 'cap' cells, the numbers 'zs' (the first 'len' are its elements, the rest its spare room), each fitting its kind. -/
def IsRow (k : IntKind) (w : World) (a : Option Addr) (len cap : Nat) (zs : List Int) : Prop :=
  (a = none ∧ len = 0 ∧ cap = 0 ∧ zs = []) ∨
  ∃ x, a = some x ∧ len ≤ cap ∧ cap ≤ maxLen ∧ zs.length = cap ∧ (∀ i, i < zs.length → w.cell? (x.add i) = some (.int k (zs.getD i 0))) ∧ ∀ n ∈ zs, (Lit.int k n).wf = true

/-- The elements of a slice of numbers, as a walk reads them. -/
def Elems (k : IntKind) (w : World) (a : Option Addr) (xs : List Int) : Prop :=
  xs = [] ∨ ∃ b off, a = some ⟨b, off, none⟩ ∧ b < w.heap.size ∧ ∀ j (h : j < xs.length), w.cell? ⟨b, off + j, none⟩ = some (.int k xs[j])

theorem cell_lt {w : World} {b o : Nat} {v : Value} (h : w.cell? ⟨b, o, none⟩ = some v) : b < w.heap.size := by
  rcases Nat.lt_or_ge b w.heap.size with h1 | h1
  · exact h1
  · unfold World.cell? at h
    rw [Array.getElem?_eq_none h1] at h
    simp at h

theorem IsRow.elems {k : IntKind} {w : World} {a : Option Addr} {len cap : Nat} {zs : List Int} (h : IsRow k w a len cap zs) :
    (zs.take len).length = len ∧ len ≤ maxLen ∧ Elems k w a (zs.take len) ∧ ∀ n ∈ zs.take len, (Lit.int k n).wf = true := by
  rcases h with ⟨rfl, rfl, rfl, rfl⟩ | ⟨x, rfl, h1, h2, h3, h4, h5⟩
  · exact ⟨rfl, by unfold maxLen; omega, .inl rfl, by simp⟩
  · refine ⟨by simp; omega, by omega, ?_, fun n hn => h5 n (List.mem_of_mem_take hn)⟩
    by_cases h0 : len = 0
    · subst h0; exact .inl (by simp)
    · obtain ⟨b, off, rfl, hc⟩ := ints_at h4 (by omega)
      refine .inr ⟨b, off, rfl, cell_lt (hc 0 (by omega)), fun j hj => ?_⟩
      have hj' : j < zs.length := by simp at hj; omega
      rw [hc j hj']
      simp [hj']

theorem Elems.below {k : IntKind} {w w' : World} {a : Option Addr} {xs : List Int} (h : Elems k w a xs) (hb : Below w.heap.size w w') : Elems k w' a xs := by
  rcases h with h | ⟨b, off, h1, h2, h3⟩
  · exact .inl h
  · exact .inr ⟨b, off, h1, Nat.lt_of_lt_of_le h2 hb.size, fun j hj => by rw [hb.cell (p := ⟨b, off + j, none⟩) h2]; exact h3 j hj⟩

def sumF : Int → List Int → Int × Int
  | s, [] => (s, 0)
  | s, x :: r => if s + x ≤ 18446744073709551615 then sumF (s + x) r else (0, 40)
theorem sumF_ok {s x : Int} {r : List Int} (h : s + x ≤ 18446744073709551615) : sumF s (x :: r) = sumF (s + x) r := by rw [sumF, if_pos h]
theorem sumF_no {s x : Int} {r : List Int} (h : ¬ s + x ≤ 18446744073709551615) : sumF s (x :: r) = (0, 40) := by rw [sumF, if_neg h]
def SumInv (xs : List Int) (i v : Value) : Prop :=
  ∃ (k : Nat) (s : Int), i = .int .i64 (k : Int) ∧ v = .int .u64 s ∧ k ≤ xs.length ∧ 0 ≤ s ∧ s ≤ 18446744073709551615 ∧ sumF s (xs.drop k) = sumF 0 xs
theorem SumInv.start (xs : List Int) : SumInv xs (.int .i64 0) (.int .u64 0) := ⟨0, 0, rfl, rfl, by omega, by omega, by omega, rfl⟩
theorem drop_i (xs : List Int) (k : Nat) (h : k < xs.length) : xs.drop k = xs[k] :: xs.drop (k + 1) := List.drop_eq_getElem_cons h
theorem SumInv.next {xs : List Int} {k : Nat} {s : Int} (h : k < xs.length) (hs : 0 ≤ s) (hx : 0 ≤ xs[k]) (hk : sumF s (xs.drop k) = sumF 0 xs) (hl : s + xs[k] ≤ 18446744073709551615) : SumInv xs (.int .i64 ((k : Int) + 1)) (.int .u64 (s + xs[k])) := by
  rw [drop_i xs k h, sumF_ok hl] at hk
  exact ⟨k + 1, _, rfl, rfl, by omega, by omega, hl, hk⟩

set_option maxHeartbeats 1600000 in
theorem wsum (a : Option Addr) (len cap : Nat) (xs : List Int) (w : World) (hlen : xs.length = len) (hm : len ≤ maxLen) (hE : Elems .u64 w a xs) (hwf : ∀ n ∈ xs, (Lit.int .u64 n).wf = true) :
    Calls Try.prog 20 #[.slice a len cap] w fun e w' => e = .returned (.tuple #[.int .u64 (sumF 0 xs).1, .int .i64 (sumF 0 xs).2]) ∧ w = w' := by
  subst hlen
  unfold maxLen at hm
  go_enter Try.func20, Try.ntmps20
  go_wp2
  go_loop [10, 4] (fun i v => SumInv xs i v) (fun i _ => xs.length - (intOf i).toNat)
  case atStart => exact SumInv.start xs
  case round =>
    obtain ⟨k, s, rfl, rfl, hk, hs0, hs1, hp⟩ := hrel
    by_cases hlt : k < xs.length
    · obtain ⟨b, off, rfl, _, hc⟩ : ∃ b off, a = some ⟨b, off, none⟩ ∧ b < w.heap.size ∧ ∀ j (h : j < xs.length), w.cell? ⟨b, off + j, none⟩ = some (.int .u64 xs[j]) := by
        rcases hE with h | h
        · subst h; simp at hlt
        · exact h
      have hck := hc k hlt
      obtain ⟨x0, x1⟩ := bounds_u64 (hwf xs[k] (List.getElem_mem hlt))
      by_cases hl : s + xs[k] ≤ 18446744073709551615
      · have HN := Lib.hid (SumInv.next hlt hs0 x0 hp hl)
        generalize xs[k] = x at *
        clear hp hE hwf hc
        go_wp2_with (go_at_call 10; refine (wadd_ok _ _ _ hs0 x0 hl).mono ?_; rintro e w' ⟨rfl, rfl⟩)
        exact ⟨HN.out, by simp [intOf]; omega⟩
      · have hq : sumF 0 xs = (0, 40) := by rw [← hp, drop_i xs k hlt, sumF_no hl]
        have HQ := Lib.hid hq
        generalize xs[k] = x at *
        clear hp hE hwf hc hq
        go_wp2_with (go_at_call 10; refine (wadd_no _ _ _ hs0 x0 hs1 x1 (by omega)).mono ?_; rintro e w' ⟨rfl, rfl⟩)
        go_ret2
        exact ⟨ret_pi (by rw [HQ.out]), rfl⟩
    · have hq : sumF 0 xs = (s, 0) := by rw [← hp, List.drop_eq_nil_of_le (by omega)]; rfl
      have HQ := Lib.hid hq
      clear hp hE hwf hq
      go_wp2
      go_ret2
      exact ⟨ret_pi (by rw [HQ.out]), rfl⟩

set_option maxHeartbeats 3200000 in
theorem WideSums_go (a : Option Addr) (len cap : Nat) (xs : List Int) (w : World) (hlen : xs.length = len) (hm : len ≤ maxLen) (hE : Elems .u64 w a xs) (hwf : ∀ n ∈ xs, (Lit.int .u64 n).wf = true) :
    Calls Try.prog 8 #[.slice a len cap] w fun e w' => e = .returned (.bool true) ∧ Below w.heap.size w w' := by
  by_cases hbig : 100 < len
  · unfold maxLen at hm
    clear hE hwf hlen
    go_enter Try.func8, Try.ntmps8
    go_wp2_with fail
    refine (reckons_true _).mono ?_; rintro e w1 ⟨rfl, hb1⟩
    go_wp2_with fail
    go_ret
    exact ⟨rfl, hb1⟩
  have hsum := fun w1 (hb : Below w.heap.size w w1) => wsum a len cap xs w1 hlen hm (hE.below hb) hwf
  obtain ⟨Y, hY⟩ : ∃ Y, (sumF 0 xs).1 = Y := ⟨_, rfl⟩
  obtain ⟨E, hF⟩ : ∃ E, (sumF 0 xs).2 = E := ⟨_, rfl⟩
  rw [hY, hF] at hsum
  have hYE : sumF 0 xs = (Y, E) := by rw [← hY, ← hF]
  have HS := Lib.hid hsum
  have HYE := Lib.hid hYE
  have HE := Lib.hid hE
  have HWf := Lib.hid hwf
  clear hsum hY hF hYE hE hwf
  subst hlen
  unfold maxLen at hm
  go_enter Try.func8, Try.ntmps8
  go_wp2_with fail
  refine (reckons_true _).mono ?_; rintro e w1 ⟨rfl, hb1⟩
  go_wp2_with fail
  refine (HS.out _ hb1).mono ?_; rintro e w2 ⟨rfl, rfl⟩
  go_wp2_with fail
  go_loop [20, 5] (fun i v => SumInv xs i v) (fun i _ => xs.length - (intOf i).toNat)
  case atStart => exact SumInv.start xs
  case round =>
    obtain ⟨k, s, rfl, rfl, hk, hs0, hs1, hp⟩ := hrel
    have hq0 := HYE.out
    by_cases hlt : k < xs.length
    · obtain ⟨b, off, rfl, _, hc⟩ : ∃ b off, a = some ⟨b, off, none⟩ ∧ b < w1.heap.size ∧ ∀ j (h : j < xs.length), w1.cell? ⟨b, off + j, none⟩ = some (.int .u64 xs[j]) := by
        rcases HE.out.below hb1 with h | h
        · subst h; simp at hlt
        · exact h
      have hck := hc k hlt
      obtain ⟨x0, x1⟩ := bounds_u64 (HWf.out xs[k] (List.getElem_mem hlt))
      by_cases hl : s + xs[k] ≤ 18446744073709551615
      · have HN := Lib.hid (SumInv.next hlt hs0 x0 hp hl)
        generalize xs[k] = x at *
        clear hp hc hq0
        go_wp2
        exact ⟨HN.out, by simp [intOf]; omega⟩
      · rw [← hp, drop_i xs k hlt, sumF_no hl] at hq0
        simp only [Prod.mk.injEq] at hq0
        obtain ⟨q1, q2⟩ := hq0
        have t1 : (Y == 0) = true := by rw [beq_iff_eq]; exact q1.symm
        have t2 : (E == 40) = true := by rw [beq_iff_eq]; exact q2.symm
        generalize xs[k] = x at *
        clear hp hc q1 q2
        go_wp2
        go_ret
        exact ⟨rfl, hb1⟩
    · rw [← hp, List.drop_eq_nil_of_le (by omega)] at hq0
      have hq1 : (s, (0 : Int)) = (Y, E) := hq0
      simp only [Prod.mk.injEq] at hq1
      obtain ⟨q1, q2⟩ := hq1
      have t1 : (Y == s) = true := by rw [beq_iff_eq]; exact q1.symm
      have t2 : (E == 0) = true := by rw [beq_iff_eq]; exact q2.symm
      clear hp q1 q2 hq0
      go_wp2
      go_ret
      exact ⟨rfl, hb1⟩

theorem WideSums_walk (a : Option Addr) (len cap : Nat) (zs : List Int) {W : World} (h : IsRow .u64 W a len cap zs) (w : World) (hw : W = w := by rfl) :
    Calls Try.prog 8 #[.slice a len cap] w fun e w' => e = .returned (.bool true) ∧ Below w.heap.size w w' := by
  subst hw
  obtain ⟨h1, h2, h3, h4⟩ := h.elems
  exact WideSums_go a len cap _ W h1 h2 h3 h4
end Go.Proofs.Ytmfjfjjdmgjoaaa
