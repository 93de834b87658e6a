/- wide.Digits: the walk. -/
import Derived.Test.YtmfjfjjdmgjoaaaWideC
import Derived.Test.YtmfjfjjdmgjoaaaDig
import Derived.OwnWalk
import Derived.LoopTactic
import Derived.Laws.IdiomStrings
import Derived.Laws.NewBlocks
namespace Go.Proofs.Ytmfjfjjdmgjoaaa
open Go.RowKit Go.Lib

theorem ret_str {a b : List UInt8} (h : a = b) : Ending.returned (.string ⟨a.toArray⟩) = .returned (.string ⟨b.toArray⟩) := by rw [h]

/-- What the buffer holds while the digits are written from its end: the last ones are acc. -/
structure DigBuf (B k : Nat) (acc : List UInt8) (w : World) : Prop where
  len : k + acc.length = 20
  cell : ∀ j, j < 20 → ∃ v, w.cell? ⟨B, j, none⟩ = some v
  free : ∀ j, j < 20 → w.frozen? ⟨B, j, none⟩ = false
  at_ : ∀ j (h : j < acc.length), w.cell? ⟨B, k + j, none⟩ = some (.int .u8 (acc[j].toNat : Int))

theorem DigBuf.store {B k : Nat} {acc : List UInt8} {w : World} (h : DigBuf B (k + 1) acc w) (c : UInt8) (v : Value) (hv : v = .int .u8 (c.toNat : Int)) :
    DigBuf B k (c :: acc) (w.setCell ⟨B, k, none⟩ v) := by
  have hk : k < 20 := by have := h.len; omega
  obtain ⟨v0, hv0⟩ := h.cell k hk
  refine ⟨by have := h.len; simp; omega, fun j hj => ?_, fun j hj => ?_, fun j hj => ?_⟩
  · obtain ⟨v1, hv1⟩ := h.cell j hj
    exact cell?_setCell_some hv1
  · rw [World.frozen?_setCell]; exact h.free j hj
  · subst hv
    cases j with
    | zero => simpa using World.cell?_setCell_same w _ _ hv0
    | succ j =>
      have hj' : j < acc.length := by simpa using hj
      have := h.at_ j hj'
      rw [World.cell?_setCell_other w _ _ _ (by simp)]
      rw [show k + (j + 1) = k + 1 + j from by omega]
      simpa using this

theorem DigBuf.last {B k : Nat} {acc : List UInt8} {w : World} (h : DigBuf B k acc w) (hs : Try.prog.underlying 46 = some (.slice 5)) (he : Try.prog.underlying 5 = some (.int .u8)) (hd : Try.prog.underlying 9 = some .string) :
    (convert 46 9 (.slice (some ⟨B, k, none⟩) (20 - k) (20 - k))).run Try.prog w = .ok (.string ⟨acc.toArray⟩) w := by
  have e : acc.length = 20 - k := by have := h.len; omega
  have := run_convert_bytes_back (P := Try.prog) w 46 9 5 ⟨B, k, none⟩ (20 - k) acc hs he hd (fun j hj => by rw [Addr.add_lit]; exact h.at_ j hj)
  rw [e] at this
  exact this

theorem dig_next (m : Nat) (h : (((m : Int) / 10) == 0) = false) (f : Nat) (acc : List UInt8) : digLoop (f + 1) m acc = digLoop f (m / 10) (digB m :: acc) := by
  have : m / 10 ≠ 0 := by have := beq_eq_false_iff_ne.1 h; omega
  show (if m / 10 = 0 then _ else _) = _
  rw [if_neg this]
theorem dig_stop (m : Nat) (h : (((m : Int) / 10) == 0) = true) (f : Nat) (acc : List UInt8) : digLoop (f + 1) m acc = digB m :: acc := by
  have : m / 10 = 0 := by have := beq_iff_eq.1 h; omega
  show (if m / 10 = 0 then _ else _) = _
  rw [if_pos this]
theorem dig_val (m : Nat) : Value.int .u8 (48 + (m : Int) % 10) = .int .u8 ((digB m).toNat : Int) := by
  rw [digB_toNat]; congr 1

/-- The state of the loop of Digits at a round's head. -/
def DigInv (n B : Nat) (w0 : World) (v i : Value) (w : World) : Prop :=
  ∃ (k m : Nat) (acc : List UInt8), i = .int .i64 ((k + 1 : Nat) : Int) ∧ v = .int .u64 (m : Int) ∧ m < 10 ^ (k + 1) ∧ m < 18446744073709551616 ∧ digLoop (k + 1) m acc = digs n ∧ DigBuf B (k + 1) acc w ∧ Below B w0 w

theorem DigInv.next {n B k m : Nat} {w0 w : World} {acc : List UInt8} (hm : m < 10 ^ (k + 1)) (hM : m < 18446744073709551616) (hd : digLoop (k + 1) m acc = digs n) (hb : DigBuf B (k + 1) acc w) (hB : Below B w0 w)
    (h : (((m : Int) / 10) == 0) = false) : DigInv n B w0 (.int .u64 ((m : Int) / 10)) (.int .i64 (k : Int)) (w.setCell ⟨B, k, none⟩ (.int .u8 (48 + (m : Int) % 10))) := by
  have h1 : m / 10 ≠ 0 := by have := beq_eq_false_iff_ne.1 h; omega
  have h3 : m / 10 < 10 ^ k := by rw [Nat.pow_succ] at hm; omega
  cases k with
  | zero => simp at h3; omega
  | succ k => exact ⟨k, m / 10, digB m :: acc, rfl, by congr 1, h3, by omega, by rw [← hd, dig_next m h], hb.store _ _ (dig_val m), hB.setCell (Nat.le_refl _) _⟩

theorem DigBuf.init (w : World) : DigBuf w.heap.size 20 [] (w.alloc (.cells #[.int .u8 0, .int .u8 0, .int .u8 0, .int .u8 0, .int .u8 0, .int .u8 0, .int .u8 0, .int .u8 0, .int .u8 0, .int .u8 0, .int .u8 0, .int .u8 0, .int .u8 0, .int .u8 0, .int .u8 0, .int .u8 0, .int .u8 0, .int .u8 0, .int .u8 0, .int .u8 0] 45)) := by
  refine ⟨rfl, fun j hj => ?_, fun j hj => ?_, fun j hj => by simp at hj⟩
  · rw [World.cell?_alloc_mark]
    refine ⟨_, Array.getElem?_eq_getElem (by simpa using hj)⟩
  · rw [World.frozen?_alloc_mark]; simp

set_option maxHeartbeats 400000 in
theorem wdigits (n : Nat) (w : World) (h : n < 18446744073709551616) :
    Calls Try.prog 15 #[.int .u64 n] w fun e w' => e = .returned (.string ⟨(digs n).toArray⟩) ∧ Below w.heap.size w w' := by
  go_enter Try.func15, Try.ntmps15
  go_wp2
  go_loopw [0, 4] (fun v i wr => DigInv n w.heap.size w v i wr) (fun _ i _ => (intOf i).toNat)
  case atStart => exact ⟨19, n, [], rfl, rfl, by omega, h, rfl, DigBuf.init w, (Below.refl _ _).alloc (Nat.le_refl _) _⟩
  case round =>
    obtain ⟨k, m, acc, rfl, rfl, hp, hm, hd, hb, hB⟩ := hrel
    have hk : k < 20 := by have := hb.len; omega
    obtain ⟨v0, hc⟩ := hb.cell k hk
    have hf := hb.free k hk
    have hsl : ∀ W, (Instr.sliceAt 45 (.pointer (some ⟨w.heap.size, 0, none⟩)) (some (.int .i64 (k : Int))) none none).run Try.prog W = .ok (.slice (some ⟨w.heap.size, k, none⟩) (20 - k) (20 - k)) W := by
      intro W
      have e : Try.prog.arrayLen 45 = 20 := by kernel_rfl
      have hz : (sizeOf (Try.prog.elem 45)).run Try.prog W = .ok 1 W := by kernel_rfl
      rw [run_sliceAt_array_l W 45 _ Try.underlying45 .i64 k (by omega) (by rw [e]; omega), hz, e]
      simp only [Result.andThen, slicedAt]
      rw [if_neg (by omega), Addr.add_lit]
      simp
    have hcv := (hb.store (digB m) _ (dig_val m)).last Try.underlying46 Try.underlying5 Try.underlying9
    have hn := fun h => DigInv.next (n := n) hp hm hd hb hB h
    have hs := fun h => dig_stop m h k acc
    have HD := Lib.hid hd; have HN := Lib.hid hn; have HS := Lib.hid hs
    clear hd hn hs
    go_wp2
    · go_ret
      have e1 : digB m :: acc = digs n := by rw [← HD.out, HS.out (by assumption)]
      exact ⟨ret_str e1, hB.setCell (Nat.le_refl _) _⟩
    · exact ⟨HN.out (by assumption), by simp [intOf]⟩
end Go.Proofs.Ytmfjfjjdmgjoaaa
