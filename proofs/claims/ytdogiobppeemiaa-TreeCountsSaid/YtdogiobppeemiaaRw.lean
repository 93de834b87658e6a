/- The reader's while: the walk. -/
import Derived.Test.YtdogiobppeemiaaRd
import Derived.Outline
namespace Go.Proofs.Ytdogiobppeemiaa
set_option linter.unusedSimpArgs false
set_option linter.unusedVariables false
set_option linter.unnecessarySimpa false
open Go.RowKit

def among (of : List UInt8) (c : UInt8) : Bool := decide (0 ≤ Lib.indexByte of c)
/-- How many bytes from a on are among some. -/
def run_ (s : ByteArray) (of : List UInt8) (a : Nat) : Nat := ((s.data.toList.drop a).takeWhile (among of)).length
theorem run_more {s : ByteArray} {of : List UInt8} {a : Nat} (h : a < s.size) (hp : among of s[a] = true) : run_ s of a = run_ s of (a + 1) + 1 := by
  unfold run_; rw [drop_at s a h, List.takeWhile_cons, if_pos hp]; rfl
theorem run_stop {s : ByteArray} {of : List UInt8} {a : Nat} (h : a < s.size) (hp : among of s[a] = false) : run_ s of a = 0 := by
  unfold run_; rw [drop_at s a h, List.takeWhile_cons, if_neg (by rw [hp]; simp)]; rfl
theorem run_end {s : ByteArray} {of : List UInt8} {a : Nat} (h : s.size ≤ a) : run_ s of a = 0 := by
  unfold run_; rw [List.drop_eq_nil_of_le (by simpa using h)]; rfl
theorem run_le (s : ByteArray) (of : List UInt8) (a : Nat) (h : a ≤ s.size) : a + run_ s of a ≤ s.size := by
  unfold run_
  have := (List.takeWhile_sublist (l := s.data.toList.drop a) (among of)).length_le
  rw [List.length_drop] at this
  have e : s.data.toList.length = s.size := by simp
  omega

def WhilePost (L : Nat) (s : ByteArray) (of : List UInt8) (a : Nat) (bad : Int) (w : World) (e : Ending) (w' : World) : Prop :=
  e = .returned (.string (s.extract a (a + run_ s of a))) ∧ Rd L s (a + run_ s of a) bad w' ∧ Kept L w w'
def WhileInv (L : Nat) (s : ByteArray) (of : List UInt8) (a : Nat) (bad : Int) (w : World) (wr : World) : Prop :=
  ∃ j, a ≤ j ∧ j ≤ s.size ∧ Rd L s j bad wr ∧ j + run_ s of j = a + run_ s of a ∧ Kept L w wr

theorem ix_any (of : List UInt8) (x : UInt8) (w : World) : Calls Try.prog 35 #[.string ⟨of.toArray⟩, .int .u8 (x.toNat : Int)] w fun e w' => e = .returned (.int .i64 (Lib.indexByte of x)) ∧ w' = w := by
  have h := sh_strings_IndexByte ⟨of.toArray⟩ (x.toNat : Int) w
  have e : ((x.toNat : Int)).toNat.toUInt8 = x := by simp
  rw [e] at h
  exact h

set_option maxHeartbeats 1600000 in
theorem while_any (L : Nat) (s : ByteArray) (of : List UInt8) (a : Nat) (bad : Int) (w : World) (h : Rd L s a bad w) (ha : a ≤ s.size) (hs : s.size ≤ 1000000000) :
    Calls Try.prog 34 #[.pointer (some ⟨L, 0, none⟩), .string ⟨of.toArray⟩] w (WhilePost L s of a bad w) := by
  obtain ⟨c0, c1, c2, cf⟩ := h.cells
  have H := Lib.hid h
  clear h c2
  go_enter Try.func34, Try.ntmps34
  go_wp2_with fail
  go_loopw [] (fun wr => WhileInv L s of a bad w wr) (fun wr => s.size - (intOf (peek wr L 1)).toNat)
  case atStart => exact ⟨a, Nat.le_refl _, ha, H.out, rfl, Kept.refl _ _⟩
  case round =>
    obtain ⟨j, hj1, hj2, hr, hrun, hkp⟩ := hrel
    clear c0 c1 cf
    obtain ⟨c0, c1, c2, cf⟩ := hr.cells
    have HR := Lib.hid hr
    have HKP := Lib.hid hkp
    clear hr hkp c2
    by_cases hlt : j < s.size
    · have i0 : (0 : Int) ≤ (j : Int) := by omega
      have i1 : (j : Int) < (s.size : Int) := by omega
      by_cases hp : among of s[j] = true
      · have hrm := run_more (of := of) hlt hp
        have hq : 0 ≤ Lib.indexByte of s[j] := of_decide_eq_true hp
        have HRM := Lib.hid (And.intro hrm hrun)
        clear hrm hrun hp
        go_wp2_with fail
        go_quiet ((go_at_call 35; exact Calls.quiet_of_same (ix_any of _ _)))
        go_wp2_with fail
        have hI : WhileInv L s of a bad w ((wr.drewN nq).setCell ⟨L, 1, none⟩ (.int .i64 ((j : Int) + 1))) := by
          refine ⟨j + 1, by omega, by omega, (HR.out.drewN nq).setAt (j + 1), ?_, (HKP.out.drewN nq).set 1 _⟩
          have := HRM.out.1; have := HRM.out.2; omega
        refine ⟨hI, ?_⟩
        have p1 : peek wr L 1 = .int .i64 (j : Int) := peek_eq c1
        have p2 : peek ((wr.drewN nq).setCell ⟨L, 1, none⟩ (.int .i64 ((j : Int) + 1))) L 1 = .int .i64 (((j + 1 : Nat)) : Int) := peek_eq ((HR.out.drewN nq).setAt (j + 1)).cells.2.1
        rw [p1, p2]
        simp [intOf]; omega
      · have hp' : among of s[j] = false := by simpa using hp
        have hrs := run_stop (of := of) hlt hp'
        have hq : ¬ 0 ≤ Lib.indexByte of s[j] := of_decide_eq_false hp'
        have HRS := Lib.hid (show j = a + run_ s of a by omega)
        clear hrs hrun hp hp'
        go_wp2_with fail
        go_quiet ((go_at_call 35; exact Calls.quiet_of_same (ix_any of _ _)))
        go_wp2_with fail
        have b1 : (a : Int) ≤ (j : Int) := by omega
        have b2 : (j : Int) ≤ (s.size : Int) := by omega
        have b0 : (0 : Int) ≤ (a : Int) := by omega
        go_quiet (fail)
        go_wp2_with fail
        go_ret
        have e := HRS.out
        refine ⟨?_, ?_, (HKP.out.drewN _).drewN _⟩
        · rw [← e]; rfl
        · rw [← e]; exact (HR.out.drewN _).drewN _
    · have hrs := run_end (s := s) (of := of) (a := j) (by omega)
      have HRS := Lib.hid (show j = a + run_ s of a by omega)
      clear hrs hrun
      go_wp2_with fail
      go_quiet ((go_at_call 35; exact Calls.quiet_of_same (ix_any of _ _)))
      go_wp2_with fail
      have b1 : (a : Int) ≤ (j : Int) := by omega
      have b2 : (j : Int) ≤ (s.size : Int) := by omega
      have b0 : (0 : Int) ≤ (a : Int) := by omega
      go_quiet (fail)
      go_wp2_with fail
      go_ret
      have e := HRS.out
      refine ⟨?_, ?_, (HKP.out.drewN _).drewN _⟩
      · rw [← e]; rfl
      · rw [← e]; exact (HR.out.drewN _).drewN _
end Go.Proofs.Ytdogiobppeemiaa
