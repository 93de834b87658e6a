/- tree.Parse: the walk. -/
import Derived.Test.YtdogiobppeemiaaRe
import Derived.Test.YtdogiobppeemiaaPl
namespace Go.Proofs.Ytdogiobppeemiaa
set_option linter.unusedSimpArgs false
set_option linter.unusedVariables false
set_option linter.unnecessarySimpa false
open Go.RowKit

theorem read_said : ∀ f, ReadSaid f
  | 0 => read_zero
  | f + 1 => read_step f (read_said f)

/-- The tree of a text, and the error. -/
def parse (s : ByteArray) : Tr × Int :=
  let r := rtree s 400 0 0
  if r.2.2 = 0 then (if r.2.1 < s.size then (zeroTr, 5) else (r.1, 0)) else (zeroTr, r.2.2)
def ParsePost (s : ByteArray) (w : World) (e : Ending) (w' : World) : Prop :=
  ∃ dv kv kxs, e = .returned (.tuple #[.agg #[.int .u64 ((parse s).1.num : Int), .bool (parse s).1.blank, dv, kv], .int .i64 (parse s).2]) ∧ Owned w.heap.size (parse s).1 dv kv kxs w' ∧ Below w.heap.size w w'
theorem new_rd (s : ByteArray) (w : World) (A : Obj) : Rd (w.heap.size + 1) s 0 0 ((w.alloc A).alloc (.cells #[.string s, .int .i64 0, .int .i64 0] 52)) := by
  have := heap_new (w.alloc A) (.cells #[.string s, .int .i64 0, .int .i64 0] 52)
  rw [size_al] at this
  exact this
set_option maxRecDepth 8000 in
set_option maxHeartbeats 6400000 in
theorem parse_any (s : ByteArray) (w : World) (hs : s.size ≤ 1048576) : Calls Try.prog 10 #[.string s] w (ParsePost s w) := by
  have hle : (s.size : Int) ≤ 1048576 := by omega
  obtain ⟨⟨t, a, bad⟩, hr⟩ : ∃ r, rtree s 400 0 0 = r := ⟨_, rfl⟩
  have hbd := rtree_bd s 400 0 0 (Nat.zero_le _)
  rw [hr] at hbd
  obtain ⟨-, ha, -, -⟩ := hbd
  simp only at ha
  have hcall : ∀ W : World, Rd (w.heap.size + 1) s 0 0 W → Calls Try.prog 25 #[.pointer (some ⟨w.heap.size + 1, 0, none⟩), .int .i64 1] W (fun e w' => ∃ dv2 kv2 kxs2, e = .returned (.agg #[.int .u64 (t.num : Int), .bool t.blank, dv2, kv2]) ∧ Owned W.heap.size t dv2 kv2 kxs2 w' ∧ Rd (w.heap.size + 1) s a bad w' ∧ Kept (w.heap.size + 1) W w') := by
    intro W h
    have h1 := read_said 400 (w.heap.size + 1) s 0 0 1 W rfl h (Nat.zero_le _) hs
    rw [hr] at h1
    exact h1
  have HCALL := Lib.hid hcall
  have HR := Lib.hid hr
  clear hcall hr
  go_enter Try.func10, Try.ntmps10
  go_wp2_with fail
  refine (HCALL.out _ (new_rd s w _)).mono ?_
  rintro e w2 ⟨dv, kv, kxs, rfl, hown, hrd, hk⟩
  have s2 := hk.size
  simp only [size_al] at s2
  have hbw : Below w.heap.size w w2 := (below_al (below_al (Below.refl _ _) _) _).trans (hk.below (by omega) (by simp only [size_al]; omega))
  have hres : w2.heap[w.heap.size]? = some (.cells #[.int .u64 0, .bool false, .slice none 0 0, .slice none 0 0] 26 (0, 0)) := (hk.block _ (by simp only [size_al]; omega) (by omega)).trans ((heap_old _ (by rw [size_al]; omega)).trans (heap_new _ _))
  obtain ⟨da, dc, rfl⟩ := owned_form hown.data
  obtain ⟨xa, xc, rfl⟩ := owned_form hown.kids
  obtain ⟨o, ho⟩ : ∃ o, (Obj.cells #[.int .u64 (t.num : Int), .bool t.blank, .slice da t.data.length dc, .slice xa t.kids.length xc] 26 (0, 0)) = o := ⟨_, rfl⟩
  have hrd3 : Rd (w.heap.size + 1) s a bad (w2.alloc o) := hrd.up (below_al (Below.refl _ _) o) hrd.lt
  have hres3 : (w2.alloc o).heap[w.heap.size]? = some (.cells #[.int .u64 0, .bool false, .slice none 0 0, .slice none 0 0] 26 (0, 0)) := (heap_old o (by omega)).trans hres
  have ht3 : (w2.alloc o).heap[w2.heap.size]? = some o := heap_new _ _
  subst ho
  obtain ⟨c0, c1, c2, cf⟩ := hrd3.cells
  have HRD := Lib.hid hrd3
  have HOW := Lib.hid hown
  have HBW := Lib.hid (below_al hbw (.cells #[.int .u64 (t.num : Int), .bool t.blank, .slice da t.data.length dc, .slice xa t.kids.length xc] 26 (0, 0)))
  have HT3 := Lib.hid ht3
  have HR3 := Lib.hid hres3
  have HS2 := Lib.hid s2
  clear hrd3 hrd hk hbw hown hres hres3 ht3 s2 c0
  by_cases hb : bad = 0
  · subst hb
    by_cases hlt : a < s.size
    · have hi : (a : Int) < (s.size : Int) := by omega
      have HLT := Lib.hid hlt
      clear hlt
      go_wp2_with fail
      refine (wrong_any (w.heap.size + 1) s a 0 5 _ HRD.out).mono ?_
      rintro e w4 ⟨rfl, hrd4, hk4⟩
      rw [if_pos rfl] at hrd4
      have hp : parse s = (zeroTr, 5) := by unfold parse; rw [HR.out]; simp [HLT.out]
      have hr4 := (hk4.block _ (by have := HS2.out; rw [size_al]; omega) (by omega)).trans HR3.out
      have hbw4 := HBW.out.trans (hk4.below (by omega) (by have := HS2.out; rw [size_al]; omega))
      obtain ⟨-, -, d2, df⟩ := hrd4.cells
      have hR := fun j => cell_of_heap (j := j) hr4
      have hRf := fun j => free_of_heap (j := j) hr4
      have R0 := hR 0
      have R1 := hR 1
      have R2 := hR 2
      have R3 := hR 3
      simp only [List.getElem?_toArray, List.getElem?_cons_succ, List.getElem?_cons_zero] at R0 R1 R2 R3
      have HP := Lib.hid hp
      have HB4 := Lib.hid hbw4
      clear hp hbw4 hk4 hrd4 hR hr4 c1 c2 cf
      go_wp2_with fail
      go_region
      all_goals go_wp2_with fail
      all_goals
        refine bodyPost_ret (v := .tuple #[.agg #[.int .u64 0, .bool false, .slice none 0 0, .slice none 0 0], .int .i64 5]) (by simp [results, Try.results10, go_sem, R0, R1, R2, R3]) rfl ?_
        unfold ParsePost
        rw [HP.out]
        refine ⟨_, _, _, rfl, owned_zero _ _, ?_⟩
        repeat (first | exact HB4.out | refine Below.drew ?_ | refine below_set ?_ (Nat.le_refl _) _)
    · have hi : (s.size : Int) ≤ (a : Int) := by omega
      have hp : parse s = (t, 0) := by unfold parse; rw [HR.out]; simp [hlt]
      have HP := Lib.hid hp
      have hR := fun j => cell_of_heap (j := j) HR3.out
      have hRf := fun j => free_of_heap (j := j) HR3.out
      have hT := fun j => cell_of_heap (j := j) HT3.out
      have hTf := fun j => free_of_heap (j := j) HT3.out
      have R0 := hR 0
      have R1 := hR 1
      have R2 := hR 2
      have R3 := hR 3
      have T0 := hT 0
      have T1 := hT 1
      have T2 := hT 2
      have T3 := hT 3
      simp only [List.getElem?_toArray, List.getElem?_cons_succ, List.getElem?_cons_zero] at R0 R1 R2 R3 T0 T1 T2 T3
      clear hlt hR hT hp
      go_wp2_with fail
      refine bodyPost_ret (v := .tuple #[.agg #[.int .u64 (t.num : Int), .bool t.blank, .slice da t.data.length dc, .slice xa t.kids.length xc], .int .i64 0]) (by simp [results, Try.results10, go_sem, R0, R1, R2, R3]) rfl ?_
      show ParsePost s w _ (set4 _ w.heap.size _ _ _ _)
      unfold ParsePost
      rw [HP.out]
      refine ⟨_, _, kxs, rfl, ?_, ?_⟩
      · have h := HOW.out
        have hs2 := HS2.out
        exact ⟨owned_kept h.data (by simp only [size_al]; omega) (fun g hg => (heap_set4_ne _ _ _ _ (by have := owned_lt h.data g hg; simp only [size_al] at this; omega)).trans (heap_old _ (owned_lt h.data g hg).2)),
          owned_kept h.kids (by simp only [size_al]; omega) (fun g hg => (heap_set4_ne _ _ _ _ (by have := owned_lt h.kids g hg; simp only [size_al] at this; omega)).trans (heap_old _ (owned_lt h.kids g hg).2)), h.apart,
          C.reps_mono (fun b hb => ⟨by have := hb.1; simp only [size_al] at this; omega, by rw [size_set4, size_al]; have := hb.2.1; omega, hb.2.2⟩) (fun b hb => (heap_set4_ne _ _ _ _ (by have := hb.1; simp only [size_al] at this; omega)).trans (heap_old _ hb.2.1)) _ _ h.parts⟩
      · exact below_set4 HBW.out (Nat.le_refl _) _ _ _ _
  · have hbb : (bad == 0) = false := by rw [beq_eq_false_iff_ne]; exact hb
    have hbn : (bad != 0) = true := by rw [bne_iff_ne]; exact hb
    have hp : parse s = (zeroTr, bad) := by unfold parse; rw [HR.out]; simp [hb]
    have HP := Lib.hid hp
    have HB := Lib.hid hb
    have hR := fun j => cell_of_heap (j := j) HR3.out
    have hRf := fun j => free_of_heap (j := j) HR3.out
    have R0 := hR 0
    have R1 := hR 1
    have R2 := hR 2
    have R3 := hR 3
    simp only [List.getElem?_toArray, List.getElem?_cons_succ, List.getElem?_cons_zero] at R0 R1 R2 R3
    clear hb hp hR
    go_wp2_with fail
    go_region
    all_goals go_wp2_with fail
    all_goals
      refine bodyPost_ret (v := .tuple #[.agg #[.int .u64 0, .bool false, .slice none 0 0, .slice none 0 0], .int .i64 bad]) (by simp [results, Try.results10, go_sem, R0, R1, R2, R3]) rfl ?_
      unfold ParsePost
      rw [HP.out]
      refine ⟨_, _, _, rfl, owned_zero _ _, ?_⟩
      repeat (first | exact HBW.out | refine Below.drew ?_ | refine below_set ?_ (Nat.le_refl _) _)
end Go.Proofs.Ytdogiobppeemiaa
