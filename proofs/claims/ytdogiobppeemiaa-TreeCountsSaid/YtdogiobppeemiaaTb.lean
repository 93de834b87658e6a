/- slices.Clone at bytes and at trees; tree.Clone: walks. -/
import Derived.Test.YtdogiobppeemiaaTa
import Derived.WalkSpells
import Derived.Lib.LazyBuf
import Derived.Maps.AppendAt
import Derived.Deep.RegionHeld3
import Derived.Deep.AppendLies
import Derived.Deep.DrawnRows
import Derived.Laws.NewBlocks
namespace Go.Proofs.Ytdogiobppeemiaa
set_option linter.unusedSimpArgs false
set_option linter.unusedVariables false
set_option linter.unnecessarySimpa false
open Go.RowKit

/-- An old cell, behind a new block. -/
theorem cell_alloc' {w : World} {o : Obj} {b j : Nat} {v : Value} (h : b < w.heap.size) (hc : w.cell? ⟨b, j, none⟩ = some v) : (w.alloc o).cell? ⟨b, j, none⟩ = some v :=
  (World.cell?_alloc_lt w o ⟨b, j, none⟩ h).trans hc
theorem info_u8 : (Try.prog.info? 5).map (fun i => (i.zero, i.size, i.bytes)) = some (some (.int .u8 0), 1, 1) := by kernel_rfl
theorem info_tree : (Try.prog.info? 26).map (fun i => (i.zero, i.size, i.bytes)) = some (some (.agg #[.int .u64 0, .bool false, .slice none 0 0, .slice none 0 0]), 4, 64) := by kernel_rfl

set_option maxHeartbeats 800000 in
theorem cloneBytes_any (d : List UInt8) (dv : Value) (w : World) (hd : (C.sl 1 (d.map byteC)).rep (· < w.heap.size) w dv) (hl : d.length ≤ 140737488355328) :
    Calls Try.prog 30 #[dv] w fun e w' => ∃ v, e = .returned v ∧ w'.ownsRow w.heap.size 5 1 v d.length (d.map fun x => Value.int .u8 (x.toNat : Int)) ∧ Below w.heap.size w w' := by
  obtain ⟨a, cap, rfl, h1, h2, h3, hd⟩ := data_form hd
  cases a with
  | none =>
    obtain rfl := h3 rfl
    have hd0 : d = [] := by rw [← List.length_eq_zero_iff]; omega
    subst hd0
    have hnil := fun W => Lib.run_eql_slice_nil (P := Try.prog) W 23 5 none 0 0 0 0 Try.underlying23
    go_enter Try.func30, Try.ntmps30
    go_wp2_with fail
    go_ret
    exact ⟨_, rfl, World.ownsRow_nil _ _ _ _, Below.refl _ _⟩
  | some ad =>
    have hnil := fun W => Lib.run_eql_slice_nil (P := Try.prog) W 23 5 (some ad) d.length cap 0 0 Try.underlying23
    have hnews : ∀ W, Below w.heap.size w W → ∀ j u, (d.map fun x => Value.int .u8 (x.toNat : Int))[j]? = some u → W.cell? (ad.add j) = some u := by
      intro W hW j u hu
      rcases hd with rfl | ⟨b, off, e, hb, hc⟩
      · simp at hu
      · simp only [Option.some.injEq] at e
        subst e
        obtain ⟨hj, rfl⟩ := List.getElem?_eq_some_iff.1 hu
        rw [Addr.add_lit, hW.cell (p := ⟨b, _, none⟩) hb, hc j (by simpa using hj)]
        simp
    have HN := Lib.hid hnews
    have HL := Lib.hid hl
    obtain ⟨i0, hi, hz0, hz1, hz2⟩ := info_parts info_u8
    unfold maxLen at h2
    clear hnews hd h3 hl
    go_enter Try.func30, Try.ntmps30
    have hown0 := World.ownsRow_made (base := w.heap.size) (e := 5) (size := 1) w #[] 0 (Nat.le_refl _) (by unfold maxLen; omega) rfl
    have hone : ∀ u ∈ d.map fun x => Value.int .u8 (x.toNat : Int), u.oneCell' = true := by
      intro u hu; obtain ⟨x, _, rfl⟩ := List.mem_map.1 hu; rfl
    have hlen : (d.map fun x => Value.int .u8 (x.toNat : Int)).length = d.length * 1 := by simp
    have hnn := HN.out _ ((Below.refl _ _).alloc (Nat.le_refl _) (.cells #[] 5))
    have hc1 : 0 + d.length ≤ maxLen := by unfold maxLen; omega
    have hc2 : (0 + d.length) * 1 ≤ 140737488355328 := by have := HL.out; omega
    have hc3 : w.heap.size ≤ (w.alloc (.cells #[] 5)).heap.size := by simp
    go_wp2_with (at_builtin; (refine wpList_append_own_at _ (by rfl) _ _ 23 (by rfl) w.heap.size 5 i0 (.int .u8 0) 1 1 Try.underlying23 hi hz0 hz1 hz2 rfl (by decide) _ 0 [] (by rfl) hown0 ad d.length cap (d.map fun x => Value.int .u8 (x.toNat : Int)) (by rfl) hlen hnn hone hc1 hc2 hc3 ?_); intro v' w1 hown hgrow _ _)
    go_ret
    refine ⟨v', rfl, ?_, ((Below.refl _ _).alloc (Nat.le_refl _) _).grown hgrow hc3 (fun k hk => by simp [Value.ownBlock] at hk; omega)⟩
    simpa using hown

/-- What slices.Clone leaves: the same cells in a row of its own. -/
def ClonedTrees (B : Nat) (ks : List Tr) (w : World) (e : Ending) (w' : World) : Prop :=
  ∃ v xs, e = .returned v ∧ w'.ownsRow w.heap.size 26 4 v ks.length xs ∧ C.reps (· < B) w (Tr.cs ks) xs ∧ Below w.heap.size w w'
set_option maxHeartbeats 800000 in
/-- slices.Clone at trees: the same cells in a row of its own. -/
theorem cloneTrees_any (B : Nat) (ks : List Tr) (kv : Value) (w : World) (hB : B ≤ w.heap.size) (hk : (C.sl 4 (Tr.cs ks)).rep (· < B) w kv) (hl : ks.length ≤ 1000000) :
    Calls Try.prog 31 #[kv] w (ClonedTrees B ks w) := by
  have hk0 := hk
  rw [C.rep] at hk0
  obtain ⟨a, n, cap, rfl, hn, h1, h2, h3, hr⟩ := hk0
  have hn' : n = ks.length := by rw [Tr.cs_length] at hn; omega
  subst hn'
  cases a with
  | none =>
    obtain rfl := h3 rfl
    have hd0 : ks = [] := by rw [← List.length_eq_zero_iff]; omega
    subst hd0
    have hnil := fun W => Lib.run_eql_slice_nil (P := Try.prog) W 24 26 none 0 0 0 0 Try.underlying24
    go_enter Try.func31, Try.ntmps31
    go_wp2_with fail
    go_ret
    exact ⟨_, [], rfl, World.ownsRow_nil _ _ _ _, by rw [Tr.cs]; trivial, Below.refl _ _⟩
  | some ad =>
    have hnil := fun W => Lib.run_eql_slice_nil (P := Try.prog) W 24 26 (some ad) ks.length cap 0 0 Try.underlying24
    obtain ⟨xs, hx, hc⟩ : ∃ xs, C.reps (· < B) w (Tr.cs ks) xs ∧ ∀ W, Below w.heap.size w W → ∀ j u, xs[j]? = some u → W.cell? (ad.add j) = some u := by
      by_cases hne : Tr.cs ks = []
      · rw [hne]; exact ⟨[], trivial, by simp⟩
      · obtain ⟨b, off, e, hb, hc⟩ := C.row_block hr hne
        simp only [Option.some.injEq] at e
        subst e
        obtain ⟨xs, e1, e2⟩ := C.row_vals hc
        exact ⟨xs, e1, fun W hW j u hu => by rw [Addr.add_lit, hW.cell (p := ⟨b, _, none⟩) (Nat.lt_of_lt_of_le hb hB)]; exact e2 j u hu⟩
    have hlen : xs.length = ks.length * 4 := by rw [← C.reps_length hx, Tr.cs_length]
    have hone := C.reps_one hx (Tr.cs_one' ks)
    obtain ⟨i0, hi, hz0, hz1, hz2⟩ := info_parts info_tree
    have hown0 := World.ownsRow_made (base := w.heap.size) (e := 26) (size := 4) w #[] 0 (Nat.le_refl _) (by unfold maxLen; omega) rfl
    have hnn := hc _ ((Below.refl _ _).alloc (Nat.le_refl _) (.cells #[] 26))
    have hc1 : 0 + ks.length ≤ maxLen := by unfold maxLen; omega
    have hc2 : (0 + ks.length) * 64 ≤ 140737488355328 := by omega
    have hc3 : w.heap.size ≤ (w.alloc (.cells #[] 26)).heap.size := by simp
    have HX := Lib.hid hx
    unfold maxLen at h2
    clear hx hc hk hr h3 hn
    go_enter Try.func31, Try.ntmps31
    go_wp2_with (at_builtin; (refine wpList_append_own_at _ (by rfl) _ _ 24 (by rfl) w.heap.size 26 i0 (.agg #[.int .u64 0, .bool false, .slice none 0 0, .slice none 0 0]) 4 64 Try.underlying24 hi hz0 hz1 hz2 rfl (by decide) _ 0 [] (by rfl) hown0 ad ks.length cap xs (by rfl) hlen hnn hone hc1 hc2 hc3 ?_); intro v' w1 hown hgrow _ _)
    go_ret
    refine ⟨v', xs, rfl, ?_, HX.out, ((Below.refl _ _).alloc (Nat.le_refl _) _).grown hgrow hc3 (fun k hk => by simp [Value.ownBlock] at hk; omega)⟩
    simpa using hown
end Go.Proofs.Ytdogiobppeemiaa
