/- The law TreeBack: the walk. -/
import Derived.Test.YtdogiobppeemiaaOp
import Derived.Test.YtdogiobppeemiaaLp
namespace Go.Proofs.Ytdogiobppeemiaa
set_option linter.unusedSimpArgs false
set_option linter.unusedVariables false
open Go.RowKit

mutual
/-- The text of a tree that is small to the law is short. -/
theorem Tr.few_text : ∀ (t : Tr) (left : Int) (deep : Nat), (t.few left deep).1 = true → t.text.length + 1 ≤ 701 * t.size
  | .node n b d ks, left, deep, h => by
    rw [Tr.few] at h
    split at h
    · simp at h
    · rename_i hc
      have h1 := digs_length n
      have h2 : (dataT d).length ≤ 601 := by
        unfold dataT
        split
        · simp
        · rw [List.length_cons, hexT_length]; omega
      have h3 := Tr.fews_text true ks _ _ h
      rw [Tr.text, headT, Tr.size]
      have h4 : (if ks = [] then [] else Tr.texts true ks ++ [41]).length ≤ (Tr.texts true ks).length + 1 := by split <;> simp
      have h5 : (if b = true then [95] else ([] : List UInt8)).length ≤ 1 := by split <;> simp
      simp only [List.length_append]
      omega
theorem Tr.fews_text : ∀ (f : Bool) (ks : List Tr) (left : Int) (deep : Nat), (Tr.fews ks left deep).1 = true → (Tr.texts f ks).length ≤ 701 * Tr.sizes ks
  | _, [], _, _, _ => by simp [Tr.texts]
  | f, t :: r, left, deep, h => by
    rw [Tr.fews] at h
    split at h
    · rename_i ht
      have h1 := Tr.few_text t left deep ht
      have h2 := Tr.fews_text false r _ _ h
      rw [Tr.texts, Tr.sizes]
      simp only [List.length_cons, List.length_append]
      omega
    · simp at h
end
theorem few_facts {t : Tr} {left : Int} (hl : left ≤ 1000) (h0 : 0 ≤ left) (h : (t.few left 0).1 = true) : (t.size : Int) ≤ left - (t.few left 0).2 ∧ 0 ≤ (t.few left 0).2 ∧ t.small ∧ t.deep ≤ 400 + 600 ∧ t.text.length + 1 ≤ 701 * t.size := by
  obtain ⟨_, h2⟩ := Tr.few_bd t left 0 h0
  obtain ⟨h3, h4, h5⟩ := h2 h
  have := t.deep_le
  exact ⟨h4, h3, h5, by omega, Tr.few_text t left 0 h⟩

theorem few_any {t : Tr} {dv kv : Value} {left : Int} {w w1 : World} (hb : Below w.heap.size w w1) (ht : TrAt (· < w.heap.size) w t dv kv) (h0 : 0 ≤ left) (h1 : left ≤ 1000) (L : Nat) (hL : w.heap.size ≤ L) (hc : w1.heap[L]? = some (.cells #[.int .i64 left] 3 (0, 0))) :
    Calls Try.prog 9 #[.agg #[.int .u64 (t.num : Int), .bool t.blank, dv, kv], .pointer (some ⟨L, 0, none⟩), .int .i64 0] w1 fun e w' => e = .returned (.bool (t.few left 0).1) ∧ w'.heap[L]? = some (.cells #[.int .i64 (t.few left 0).2] 3 (0, 0)) ∧ Kept L w1 w' :=
  few_said t.size t dv kv w.heap.size L left 0 w1 (Nat.le_refl _) h0 h1 (by omega) hL (cell_lt (cell_of_heap (j := 0) hc)) (ht.below hb) hc

set_option maxRecDepth 8000 in
set_option maxHeartbeats 3200000 in
theorem back_core (t : Tr) (dv kv : Value) (w : World) (hok : t.ok) (ht : TrAt (· < w.heap.size) w t dv kv) : Calls Try.prog 3 #[.agg #[.int .u64 (t.num : Int), .bool t.blank, dv, kv]] w fun e w' => e = .returned (.bool true) ∧ Below w.heap.size w w' := by
  obtain ⟨ta, tc, ua, uc, rfl, rfl, _, _, _, _⟩ := ht.form
  have hV := TreeVar.new ht
  have hB := below_al (Below.refl w.heap.size w) (.cells #[.int .u64 (t.num : Int), .bool t.blank, .slice ta t.data.length tc, .slice ua t.kids.length uc] 26 (0, 0))
  have HT := Lib.hid ht
  have HO := Lib.hid hok
  have HV := Lib.hid hV
  have HB := Lib.hid hB
  clear ht hok hV hB
  obtain ⟨⟨fb, fl⟩, hfew⟩ : ∃ r, t.few 300 0 = r := ⟨_, rfl⟩
  have HF := Lib.hid hfew
  clear hfew
  go_enter Try.func3, Try.ntmps3
  go_wp2_with fail
  refine (texts_any _).mono ?_
  rintro e w1 ⟨rfl, hb1⟩
  have hV1 := HV.out.up hb1
  obtain ⟨q0, q1, q2, q3⟩ := hV1.cells
  have hs1 := hV1.1
  have hB1 := HB.out.trans (hb1.mono HB.out.size)
  have hq := fun o => cell_alloc' (w := w1) (o := o) hs1 q0
  have hq1 := fun o => cell_alloc' (w := w1) (o := o) hs1 q1
  have hq2 := fun o => cell_alloc' (w := w1) (o := o) hs1 q2
  have hq3 := fun o => cell_alloc' (w := w1) (o := o) hs1 q3
  have HV1 := Lib.hid hV1
  have HB1 := Lib.hid hB1
  clear hb1 hV1 hB1 q0 q1 q2 q3
  go_wp2_with fail
  refine (few_any (left := 300) (HB1.out.trans ((below_al (Below.refl _ _) _).mono HB1.out.size)) HT.out (by omega) (by omega) w1.heap.size HB1.out.size (heap_new _ _)).mono ?_
  rintro e w2 ⟨rfl, hL, hk⟩
  have hb12 : Below w1.heap.size w1 w2 := (below_al (Below.refl _ _) _).trans (hk.below (Nat.le_refl _) (by rw [size_al]; omega))
  have hV2 := HV1.out.up hb12
  obtain ⟨q0, q1, q2, q3⟩ := hV2.cells
  have HV2 := Lib.hid hV2
  have HB2 := Lib.hid (HB1.out.trans (hb12.mono HB1.out.size))
  clear hk hL hb12 hV2 hq hq1 hq2 hq3
  rw [HF.out]
  rcases fb with _ | _
  · clear q0 q1 q2 q3
    go_wp2_with fail
    go_ret
    exact ⟨rfl, HB2.out⟩
  · have hfx := HF.out
    have hf1 : (t.few 300 0).1 = true := by rw [hfx]
    obtain ⟨z1, z2, z3, z4, z5⟩ := few_facts (left := 300) (by omega) (by omega) hf1
    have z6 := t.deep_le
    rw [hfx] at z1 z2
    have HZ := Lib.hid (And.intro z1 (And.intro z2 (And.intro z5 z6)))
    have hnum := Tr.ok_nums t HO.out
    have hpt := parse_as (parse_text t hnum (by simp only at z1 z2; omega)) (by rw [show (⟨t.text.toArray⟩ : ByteArray).size = t.text.length from by simp [ByteArray.size]]; simp only at z1 z2; omega)
    have HP := Lib.hid hpt
    clear z1 z2 z3 z4 z5 z6 hf1 hfx hnum hpt
    go_wp2_with fail
    clear q0 q1 q2 q3
    refine (text_any t _ _ _ HO.out HV2.out.2.2 (by have := HZ.out; omega)).mono ?_
    rintro e w3 ⟨rfl, hb3⟩
    have HV3 := Lib.hid (HV2.out.up hb3)
    have HB3 := Lib.hid (HB2.out.trans (hb3.mono HB2.out.size))
    clear hb3
    go_wp2_with fail
    refine (HP.out _).mono ?_
    rintro e w4 ⟨dv, kv, kxs, rfl, hown, hb4⟩
    have ht4 := hown.at_
    obtain ⟨sa, sc, ra, rc, rfl, rfl, _, _, _, _⟩ := ht4.form
    have hV4 := HV3.out.up hb4
    have hN4 := TreeVar.new ht4
    have hV5 := hV4.up (below_al (Below.refl _ _) (.cells #[.int .u64 (t.num : Int), .bool t.blank, .slice sa t.data.length sc, .slice ra t.kids.length rc] 26 (0, 0)))
    have hB4 := HB3.out.trans (hb4.mono HB3.out.size)
    have hB5 := below_al hB4 (.cells #[.int .u64 (t.num : Int), .bool t.blank, .slice sa t.data.length sc, .slice ra t.kids.length rc] 26 (0, 0))
    obtain ⟨q0, q1, q2, q3⟩ := hV5.cells
    obtain ⟨p0, p1, p2, p3⟩ := hN4.cells
    have HV5 := Lib.hid hV5
    have HN4 := Lib.hid hN4
    have HB5 := Lib.hid hB5
    clear hown hb4 ht4 hV4 hN4 hV5 hB4 hB5
    go_wp2_with fail
    clear q0 q1 q2 q3 p0 p1 p2 p3
    refine (same_said t.size t t _ _ _ _ _ (Nat.le_refl _) HO.out HO.out HV5.out.2.2 HN4.out.2.2).mono ?_
    rintro e w6 ⟨rfl, hb6⟩
    have HB6 := Lib.hid (HB5.out.trans (hb6.mono HB5.out.size))
    have hsm : Tr.same t t = true := Tr.same_true.2 rfl
    clear hb6
    go_wp2_with fail
    go_ret
    exact ⟨rfl, HB6.out⟩

theorem TreeBack_walk {H : Type} {enc : TypeId × Value → H} {W : World} (base : Nat) (v : Value) (d : DataW H) (p : List MemPlace) (hok : Value.okWide Try.prog W .any base 26 v) (h : DataW.Trod enc Try.prog W 0 (fun _ => true) true 26 v d p) (w : World) (hw : w = W) :
    Calls Try.prog 3 #[v] w fun e w' => e = .returned (.bool true) ∧ Below w.heap.size w w' := by
  subst hw
  obtain ⟨t, dv, kv, rfl, ho, ht⟩ := tree_arg hok h
  exact back_core t dv kv w ho ht
end Go.Proofs.Ytdogiobppeemiaa
