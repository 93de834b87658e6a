/- The reader's small methods: eat, wrong, while: walks. -/
import Derived.Test.YtdogiobppeemiaaSh
import Derived.Test.YtdogiobppeemiaaTi
import Derived.BigQuiet
import Derived.Deep.QuietTactic
namespace Go.Proofs.Ytdogiobppeemiaa
set_option linter.unusedSimpArgs false
set_option linter.unusedVariables false
set_option linter.unnecessarySimpa false
open Go.RowKit

/-- The reader at block L. -/
def Rd (L : Nat) (s : ByteArray) (at_ : Nat) (bad : Int) (w : World) : Prop := w.heap[L]? = some (.cells #[.string s, .int .i64 (at_ : Int), .int .i64 bad] 52 (0, 0))
theorem Rd.cells {L : Nat} {s : ByteArray} {a : Nat} {bad : Int} {w : World} (h : Rd L s a bad w) :
    w.cell? ⟨L, 0, none⟩ = some (.string s) ∧ w.cell? ⟨L, 1, none⟩ = some (.int .i64 (a : Int)) ∧ w.cell? ⟨L, 2, none⟩ = some (.int .i64 bad) ∧ (∀ j, w.frozen? ⟨L, j, none⟩ = false) :=
  ⟨cell_of_heap h, cell_of_heap h, cell_of_heap h, fun _ => free_of_heap h⟩
theorem Rd.setAt {L : Nat} {s : ByteArray} {a : Nat} {bad : Int} {w : World} (h : Rd L s a bad w) (a' : Nat) : Rd L s a' bad (w.setCell ⟨L, 1, none⟩ (.int .i64 (a' : Int))) := by
  unfold Rd at h ⊢; simp [World.setCell, Array.getElem?_modify, h]
theorem Rd.setBad {L : Nat} {s : ByteArray} {a : Nat} {bad : Int} {w : World} (h : Rd L s a bad w) (b' : Int) : Rd L s a b' (w.setCell ⟨L, 2, none⟩ (.int .i64 b')) := by
  unfold Rd at h ⊢; simp [World.setCell, Array.getElem?_modify, h]
theorem Rd.drewN {L : Nat} {s : ByteArray} {a : Nat} {bad : Int} {w : World} (h : Rd L s a bad w) (n : Nat) : Rd L s a bad (w.drewN n) := h
theorem Kept.drewN {L : Nat} {w w' : World} (h : Kept L w w') (n : Nat) : Kept L w (w'.drewN n) := ⟨h.os, h.tape, h.output, h.size, h.block⟩
theorem Rd.lt {L : Nat} {s : ByteArray} {a : Nat} {bad : Int} {w : World} (h : Rd L s a bad w) : L < w.heap.size := by
  rcases Nat.lt_or_ge L w.heap.size with h' | h'
  · exact h'
  · unfold Rd at h; simp [Array.getElem?_eq_none h'] at h

/-- Is c the next byte? -/
def eats (s : ByteArray) (a : Nat) (bad : Int) (c : Nat) : Bool := decide (bad = 0) && (if h : a < s.size then decide (s[a].toNat = c) else false)

def EatPost (L : Nat) (s : ByteArray) (a : Nat) (bad : Int) (c : Nat) (w : World) (e : Ending) (w' : World) : Prop :=
  e = .returned (.bool (eats s a bad c)) ∧ Rd L s (if eats s a bad c = true then a + 1 else a) bad w' ∧ Kept L w w'
def WrongPost (L : Nat) (s : ByteArray) (a : Nat) (bad e : Int) (w : World) (r : Ending) (w' : World) : Prop :=
  r = .returned (.tuple #[]) ∧ Rd L s a (if bad = 0 then e else bad) w' ∧ Kept L w w'
set_option maxHeartbeats 1600000 in
theorem eat_any (L : Nat) (s : ByteArray) (a : Nat) (bad : Int) (c : Nat) (w : World) (h : Rd L s a bad w) (ha : a ≤ s.size) (hs : s.size ≤ 1000000000) :
    Calls Try.prog 32 #[.pointer (some ⟨L, 0, none⟩), .int .u8 (c : Int)] w (EatPost L s a bad c w) := by
  obtain ⟨c0, c1, c2, cf⟩ := h.cells
  have H := Lib.hid h
  clear h
  by_cases hb : bad = 0
  · subst hb
    by_cases hlt : a < s.size
    · have hne : ((a : Int) == (s.size : Int)) = false := by rw [beq_eq_false_iff_ne]; omega
      have i0 : (0 : Int) ≤ (a : Int) := by omega
      have i1 : (a : Int) < (s.size : Int) := by omega
      by_cases hc : s[a].toNat = c
      · have he : eats s a 0 c = true := by simp [eats, hlt, hc]
        have hq : ((s[a].toNat : Int) != (c : Int)) = false := by rw [bne_eq_false_iff_eq]; omega
        have HE := Lib.hid he
        clear he hc
        go_enter Try.func32, Try.ntmps32
        go_wp2_with fail
        go_quiet (fail)
        go_wp2_with fail
        go_ret
        refine ⟨ret_b (by rw [HE.out]), ?_, ?_⟩
        · rw [if_pos HE.out]; exact (H.out.drewN _).setAt (a + 1)
        · exact ((Kept.refl L w).drewN _).set 1 _
      · have he : eats s a 0 c = false := by simp [eats, hlt, hc]
        have hq : ((s[a].toNat : Int) != (c : Int)) = true := by rw [bne_iff_ne]; omega
        have HE := Lib.hid he
        clear he hc
        go_enter Try.func32, Try.ntmps32
        go_wp2_with fail
        go_quiet (fail)
        go_wp2_with fail
        go_ret
        exact ⟨ret_b (by rw [HE.out]), by rw [if_neg (by rw [HE.out]; simp)]; exact H.out.drewN _, (Kept.refl L w).drewN _⟩
    · have hne : ((a : Int) == (s.size : Int)) = true := by rw [beq_iff_eq]; omega
      have he : eats s a 0 c = false := by simp [eats, hlt]
      have HE := Lib.hid he
      clear he
      go_enter Try.func32, Try.ntmps32
      go_wp2_with fail
      go_quiet (fail)
      go_wp2_with fail
      go_ret
      exact ⟨ret_b (by rw [HE.out]), by rw [if_neg (by rw [HE.out]; simp)]; exact H.out.drewN _, (Kept.refl L w).drewN _⟩
  · have hbb : (bad != 0) = true := by rw [bne_iff_ne]; exact hb
    have he : eats s a bad c = false := by simp [eats, hb]
    have HE := Lib.hid he
    clear he hb
    go_enter Try.func32, Try.ntmps32
    go_wp2_with fail
    go_quiet (fail)
    go_wp2_with fail
    go_ret
    exact ⟨ret_b (by rw [HE.out]), by rw [if_neg (by rw [HE.out]; simp)]; exact H.out.drewN _, (Kept.refl L w).drewN _⟩

theorem wrong_any (L : Nat) (s : ByteArray) (a : Nat) (bad e : Int) (w : World) (h : Rd L s a bad w) :
    Calls Try.prog 26 #[.pointer (some ⟨L, 0, none⟩), .int .i64 e] w (WrongPost L s a bad e w) := by
  obtain ⟨c0, c1, c2, cf⟩ := h.cells
  have H := Lib.hid h
  clear h
  by_cases hb : bad = 0
  · subst hb
    go_enter Try.func26, Try.ntmps26
    go_wp2_with fail
    go_end0
    exact ⟨rfl, by rw [if_pos rfl]; exact H.out.setBad e, (Kept.refl L w).set 2 _⟩
  · have hbb : (bad == 0) = false := by rw [beq_eq_false_iff_ne]; exact hb
    have HB := Lib.hid hb
    clear hb
    go_enter Try.func26, Try.ntmps26
    go_wp2_with fail
    go_end0
    exact ⟨rfl, by rw [if_neg HB.out]; exact H.out, Kept.refl L w⟩
end Go.Proofs.Ytdogiobppeemiaa
