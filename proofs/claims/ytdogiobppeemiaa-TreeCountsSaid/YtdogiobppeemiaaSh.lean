/- Library contracts at this program: the kit's layings, in plain words. -/
import Derived.Shelf.Strings.Builder1
import Derived.Shelf.Small.Strs
import Derived.Shelf.Strings.Search1
import Derived.Test.YtdogiobppeemiaaTw
namespace Go.Proofs.Ytdogiobppeemiaa
set_option linter.unusedSimpArgs false
set_option linter.unusedVariables false
set_option linter.unnecessarySimpa false
open Go.RowKit Go.Shelf
def shRen169 : Go.Shelf.Ren := ⟨fun | 169 => 28 | n => n, fun | 70 => 55 | 9 => 9 | 0 => 0 | 72 => 57 | 37 => 23 | 127 => 75 | 3 => 3 | 5 => 5 | n => n, fun | n => n⟩
theorem sh169 : Go.Proofs.Lays.n169 Try.prog shRen169 := {
  mixed := by kernel_rfl
  f169 := Try.func28.trans (congrArg some (by kernel_rfl))
  t0 := Try.underlying0
  a0 := Try.isAgg0
  z0 := Try.sizeOf0
  v0 := Try.zeroValue0
  t3 := Try.underlying3
  a3 := Try.isAgg3
  z3 := Try.sizeOf3
  v3 := Try.zeroValue3
  t9 := Try.underlying9
  a9 := Try.isAgg9
  z9 := Try.sizeOf9
  v9 := Try.zeroValue9
  t37 := Try.underlying23
  a37 := Try.isAgg23
  z37 := Try.sizeOf23
  v37 := Try.zeroValue23
  t70 := Try.underlying55
  a70 := Try.isAgg55
  z70 := Try.sizeOf55
  v70 := Try.zeroValue55
  t72 := Try.underlying57
  a72 := Try.isAgg57
  z72 := Try.sizeOf57
  v72 := Try.zeroValue57
  t127 := Try.underlying75
  a127 := Try.isAgg75
  z127 := Try.sizeOf75
  v127 := Try.zeroValue75 }
theorem shX169 : Builder.Extra Try.prog shRen169 := {
  sizeBuilder := by kernel_rfl
  liesBuilder := by kernel_rfl
  t5 := Try.underlying5
  a5 := Try.isAgg5
  z5 := Try.sizeOf5
  v5 := Try.zeroValue5
  infoByte := by kernel_rfl
  cellsByte := by kernel_rfl
  sizeByte := by kernel_rfl
  neB5 := by decide }
theorem sh_Builder_String_any (B b : Nat) (l : List UInt8) (w : World) (h : Lib.IsBuilder 57 5 B b (Lib.byteCells l) w) (hBw : B ≤ w.heap.size) :
    Calls Try.prog 28 #[.pointer (some ⟨b, 0, none⟩)] w fun e w' => e = .returned (.string ⟨l.toArray⟩) ∧ Below B w w' := Any.Builder_String_any sh169 shX169 B b l w h hBw
def shRen137 : Go.Shelf.Ren := ⟨fun | 137 => 35 | 217 => 40 | 266 => 44 | n => n, fun | 9 => 9 | 5 => 5 | 3 => 3 | n => n, fun | n => n⟩
theorem sh137 : Go.Proofs.Lays.n137 Try.prog shRen137 := {
  mixed := by kernel_rfl
  f137 := Try.func35.trans (congrArg some (by kernel_rfl))
  f217 := Try.func40.trans (congrArg some (by kernel_rfl))
  f266 := Try.func44.trans (congrArg some (by kernel_rfl))
  t3 := Try.underlying3
  a3 := Try.isAgg3
  z3 := Try.sizeOf3
  v3 := Try.zeroValue3
  t5 := Try.underlying5
  a5 := Try.isAgg5
  z5 := Try.sizeOf5
  v5 := Try.zeroValue5
  t9 := Try.underlying9
  a9 := Try.isAgg9
  z9 := Try.sizeOf9
  v9 := Try.zeroValue9 }
theorem sh_strings_IndexByte (s : ByteArray) (c : Int) (w : World) :
    Calls Try.prog 35 #[.string s, .int .u8 c] w fun e w' => e = .returned (.int .i64 (Lib.indexByte s.data.toList c.toNat.toUInt8)) ∧ w' = w := Any.strings_IndexByte sh137 s c w

/-- Builder.String, of a builder of mine. -/
theorem bString_any (B b : Nat) (l : List UInt8) (v : Value) (w : World) (h : Bld B b (byteVs l) v w) (hBw : B ≤ w.heap.size) :
    Calls Try.prog 28 #[.pointer (some ⟨b, 0, none⟩)] w fun e w' => e = .returned (.string ⟨l.toArray⟩) ∧ Below B w w' := by
  refine sh_Builder_String_any B b l w ?_ hBw
  obtain ⟨p, hp, hh⟩ := h.at_
  rcases hp with rfl | rfl
  · exact .inl ⟨h.hB, v, hh, h.own, h.ne⟩
  · exact .inr ⟨h.hB, v, hh, h.own, h.ne⟩

theorem new_bld (w : World) (A : Obj) : Bld w.heap.size (w.heap.size + 1) [] (.slice none 0 0) ((w.alloc A).alloc (.cells #[.pointer none, .slice none 0 0] 57)) := by
  refine ⟨by omega, ⟨_, .inl rfl, ?_⟩, World.ownsRow_nil _ _ _ _, by simp [Value.ownBlock]⟩
  have := heap_new (w.alloc A) (.cells #[.pointer none, .slice none 0 0] 57)
  rw [size_al] at this
  exact this

set_option maxHeartbeats 1600000 in
/-- tree.Text: the tree's text. -/
theorem text_any (t : Tr) (dv kv : Value) (w : World) (hok : t.ok) (ht : TrAt (· < w.heap.size) w t dv kv) (hl : t.text.length ≤ 140737488355328) :
    Calls Try.prog 11 #[.agg #[.int .u64 (t.num : Int), .bool t.blank, dv, kv]] w fun e w' => e = .returned (.string ⟨t.text.toArray⟩) ∧ Below w.heap.size w w' := by
  obtain ⟨ad, cd, ak, ck, rfl, rfl, _, _, _, _⟩ := ht.form
  have hwr := fun A (hA : Below w.heap.size w ((w.alloc A).alloc (.cells #[.pointer none, .slice none 0 0] 57))) => write_said _ t _ _ w.heap.size (w.heap.size + 1) [] (.slice none 0 0) ((w.alloc A).alloc (.cells #[.pointer none, .slice none 0 0] 57)) (Nat.le_refl _) hok (new_bld w A) (by rw [size_al, size_al]; omega) (ht.below hA) (by simpa using hl)
  have HWR := Lib.hid hwr
  clear ht hwr
  go_enter Try.func11, Try.ntmps11
  go_wp2_with fail
  refine (HWR.out _ (below_al (below_al (Below.refl _ _) _) _)).mono ?_
  rintro e w2 ⟨v2, rfl, h2, hs2⟩
  have hb2 := hs2.below (new_bld w _) (by rw [size_al, size_al]; omega)
  have H2 := Lib.hid (And.intro h2 (Below.trans (below_al (below_al (Below.refl _ _) _) _) hb2))
  clear h2 hs2 hb2
  go_wp2_with fail
  refine (bString_any w.heap.size (w.heap.size + 1) t.text v2 w2 (by simpa using H2.out.1) H2.out.2.size).mono ?_
  rintro e w3 ⟨rfl, hb3⟩
  have H3 := Lib.hid (H2.out.2.trans hb3)
  clear hb3
  go_wp2_with fail
  go_ret
  exact ⟨rfl, H3.out⟩
end Go.Proofs.Ytdogiobppeemiaa
