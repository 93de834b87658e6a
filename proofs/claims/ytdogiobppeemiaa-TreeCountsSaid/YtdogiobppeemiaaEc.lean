/- The law TreeCounts: its functions' walks, and its plain law. -/
import Derived.Test.YtdogiobppeemiaaEb
namespace Go.Proofs.Ytdogiobppeemiaa
set_option linter.unusedSimpArgs false
set_option linter.unusedVariables false
open Go.RowKit

/-- The first function counts, and always goes on. -/
theorem yields_one (L : Nat) (w0 : World) : Yields1 (.pointer (some ⟨L, 0, none⟩)) (fun _ => true) L w0 := by
  intro x ad ak cd ck m W hm0 hm1 hk hc
  have hL : L < W.heap.size := cell_lt (cell_of_heap (j := 0) hc)
  have hA := fun A => (heap_old A hL).trans hc
  have L0 := fun A => cell_of_heap (j := 0) (hA A)
  have Lf := fun A => free_of_heap (j := 0) (hA A)
  simp only [List.getElem?_toArray, List.getElem?_cons_zero] at L0
  have HC := Lib.hid hc
  clear hA hk hc
  go_enter Try.func19, Try.ntmps19
  go_wp2_with fail
  go_ret
  exact ⟨rfl, (heap_old _ (by simpa [World.setCell] using hL)).trans (heap_set1 HC.out), ((Kept.refl L W).set 0 _).alloc _⟩

/-- The second counts, and goes on while there are fewer. -/
theorem yields_two (L S : Nat) (stop : Int) (w0 : World) (hS : w0.heap[S]? = some (.cells #[.int .i64 stop] 3 (0, 0))) (hne : S ≠ L) : Yields (.pointer (some ⟨L, 0, none⟩)) (.pointer (some ⟨S, 0, none⟩)) (fun m => decide (m < stop)) L w0 := by
  intro x ad ak cd ck m W hm0 hm1 hk hc
  have hL : L < W.heap.size := cell_lt (cell_of_heap (j := 0) hc)
  have hS0 : S < w0.heap.size := cell_lt (cell_of_heap (j := 0) hS)
  have hSW := (hk.block S hS0 hne).trans hS
  have hA := fun A => (heap_old A hL).trans hc
  have L0 := fun A => cell_of_heap (j := 0) (hA A)
  have Lf := fun A => free_of_heap (j := 0) (hA A)
  have hSz : S < W.heap.size := by have := hk.size; omega
  have hBB := fun A v => (heap_old (w := W.setCell ⟨L, 0, none⟩ v) (k := S) A (by simpa [World.setCell] using hSz)).trans ((heap_setCell_ne hne).trans hSW)
  have hLL := fun A v => (heap_old (w := W.setCell ⟨L, 0, none⟩ v) (k := L) A (by simpa [World.setCell] using hL)).trans (heap_set1 hc)
  have S0 := fun A v => cell_of_heap (j := 0) (hBB A v)
  have L1 := fun A v => cell_of_heap (j := 0) (hLL A v)
  simp only [List.getElem?_toArray, List.getElem?_cons_zero] at L0 S0 L1
  have HC := Lib.hid hc
  clear hA hk hc hS hS0 hSW hBB hLL
  go_enter Try.func20, Try.ntmps20
  go_wp2_with fail
  go_ret
  exact ⟨rfl, (heap_old _ (by simpa [World.setCell] using hL)).trans (heap_set1 HC.out), ((Kept.refl L W).set 0 _).alloc _⟩

mutual
theorem Tr.each_all : ∀ (t : Tr) (m : Int), t.each (fun _ => true) m = (true, m + (t.size : Int))
  | .node n b d ks, m => by
    rw [Tr.each, if_pos rfl, Tr.eachs_all ks (m + 1), Tr.size]
    simp only [Prod.mk.injEq, true_and]; omega
theorem Tr.eachs_all : ∀ (ks : List Tr) (m : Int), Tr.eachs (fun _ => true) ks m = (true, m + (Tr.sizes ks : Int))
  | [], m => by rw [Tr.eachs, Tr.sizes]; simp
  | t :: r, m => by
    rw [Tr.eachs, Tr.each_all t m, if_pos rfl, Tr.eachs_all r, Tr.sizes]
    simp only [Prod.mk.injEq, true_and]; omega
end
mutual
theorem Tr.each_lt (stop : Int) : ∀ (t : Tr) (m : Int), t.each (fun m => decide (m < stop)) m = if m + (t.size : Int) < stop then (true, m + (t.size : Int)) else (false, max (m + 1) stop)
  | .node n b d ks, m => by
    rw [Tr.each, Tr.size]
    by_cases h : m + 1 < stop
    · rw [if_pos (by simpa using h), Tr.eachs_lt stop ks (m + 1) h]
      by_cases h2 : m + 1 + (Tr.sizes ks : Int) < stop
      · rw [if_pos h2, if_pos (by omega)]; simp only [Prod.mk.injEq, true_and]; omega
      · rw [if_neg h2, if_neg (by omega)]; simp only [Prod.mk.injEq, true_and]; omega
    · rw [if_neg (by simpa using h), if_neg (by omega)]; simp only [Prod.mk.injEq, true_and]; omega
theorem Tr.eachs_lt (stop : Int) : ∀ (ks : List Tr) (m : Int), m < stop → Tr.eachs (fun m => decide (m < stop)) ks m = if m + (Tr.sizes ks : Int) < stop then (true, m + (Tr.sizes ks : Int)) else (false, stop)
  | [], m, h => by rw [Tr.eachs, Tr.sizes, if_pos (by omega)]; simp
  | t :: r, m, h => by
    rw [Tr.eachs, Tr.each_lt stop t m, Tr.sizes]
    by_cases h2 : m + (t.size : Int) < stop
    · rw [if_pos h2, if_pos rfl, Tr.eachs_lt stop r _ h2]
      by_cases h3 : m + (t.size : Int) + (Tr.sizes r : Int) < stop
      · rw [if_pos h3, if_pos (by omega)]; simp only [Prod.mk.injEq, true_and]; omega
      · rw [if_neg h3, if_neg (by omega)]
    · rw [if_neg h2, if_neg (by simp), if_neg (by omega)]; simp only [Prod.mk.injEq, true_and]; omega
end
end Go.Proofs.Ytdogiobppeemiaa
