/- A tree that came in as an argument: as data. -/
import Derived.Test.YtdogiobppeemiaaTx
import Derived.ProofKit
import Derived.OpenShut
namespace Go.Proofs.Ytdogiobppeemiaa
set_option linter.unusedSimpArgs false
set_option linter.unusedVariables false
open Go.RowKit Go.WideShapes Go.ChangeShapes Go.ChangeAt

theorem Tr.oks_of : ∀ (ks : List Tr), (∀ j (h : j < ks.length), ks[j].ok) → Tr.oks ks
  | [], _ => by rw [Tr.oks]; trivial
  | t :: r, h => by
    rw [Tr.oks]
    exact ⟨h 0 (by simp), Tr.oks_of r fun j hj => h (j + 1) (by simpa using hj)⟩
theorem choose_list {P : Nat → Tr → Prop} (n : Nat) (h : ∀ i, i < n → ∃ t, P i t) : ∃ ks : List Tr, ks.length = n ∧ ∀ i (hi : i < ks.length), P i ks[i] := by
  induction n with
  | zero => exact ⟨[], rfl, fun i hi => by simp at hi⟩
  | succ n ih =>
    obtain ⟨ks, hl, hk⟩ := ih fun i hi => h i (by omega)
    obtain ⟨t, ht⟩ := h n (by omega)
    refine ⟨ks ++ [t], by simp [hl], fun i hi => ?_⟩
    by_cases hn : i < ks.length
    · rw [List.getElem_append_left hn]; exact hk i hn
    · have : i = ks.length := by simp at hi; omega
      subst this
      rw [List.getElem_append_right (Nat.le_refl _)]
      simp only [Nat.sub_self, List.getElem_cons_zero]
      rw [hl]; exact ht

theorem reps_four {ok : Nat → Prop} {w : World} {t : Tr} {vs : List Value} (h : C.reps ok w t.c vs) (i : Nat) (hi : i < 4) : ∃ u c, vs[i]? = some u ∧ t.c[i]? = some c ∧ c.rep ok w u := by
  have hl := C.reps_length h
  rw [Tr.c_length] at hl
  exact ⟨vs[i]'(by omega), t.c[i]'(by rw [Tr.c_length]; exact hi), by simp, by simp, C.reps_at h i _ _⟩

theorem byte_of (z : Int) (h0 : 0 ≤ z) (h1 : z ≤ 255) : ((z.toNat.toUInt8).toNat : Int) = z := by
  have : (z.toNat.toUInt8).toNat = z.toNat % 256 := by simp
  omega

theorem tree_open {H : Type} (enc : TypeId × Value → H) (W : World) (base : Nat) (spare : Nat → Bool) (held : Bool) : ∀ (fuel : Nat) (cs : List Value) (x : DataW H × List MemPlace), DataW.trod enc Try.prog W base spare held fuel 26 cs = some x →
    ∃ t : Tr, t.ok ∧ C.reps (· < W.heap.size) W t.c cs := by
  intro fuel
  induction fuel using Nat.strongRecOn with
  | _ fuel ih =>
  intro cs x h
  have hc4 : Try.prog.cellsOf 26 = 4 := by kernel_rfl
  have hc1 : Try.prog.cellsOf 5 = 1 := by kernel_rfl
  obtain ⟨xs, n, rfl, rfl, hlen, hxs, hf⟩ := DataW.trod_struct Try.underlying26 h
  rw [hc4] at hlen
  match cs, hlen with
  | [v0, v1, v2, v3], _ =>
  have hl4 : xs.length = 4 := hxs
  have f0 := hf 0 _ rfl
  have f1 := hf 1 _ rfl
  have f2 := hf 2 _ rfl
  have f3 := hf 3 _ rfl
  change DataW.trod enc Try.prog W base spare held n 22 (List.take (Try.prog.cellsOf 22) (List.drop 0 [v0, v1, v2, v3])) = xs[0]? at f0
  change DataW.trod enc Try.prog W base spare held n 4 (List.take (Try.prog.cellsOf 4) (List.drop 1 [v0, v1, v2, v3])) = xs[1]? at f1
  change DataW.trod enc Try.prog W base spare held n 23 (List.take (Try.prog.cellsOf 23) (List.drop 2 [v0, v1, v2, v3])) = xs[2]? at f2
  change DataW.trod enc Try.prog W base spare held n 24 (List.take (Try.prog.cellsOf 24) (List.drop 3 [v0, v1, v2, v3])) = xs[3]? at f3
  rw [show Try.prog.cellsOf 22 = 1 from by kernel_rfl, List.getElem?_eq_getElem (by omega)] at f0
  rw [show Try.prog.cellsOf 4 = 1 from by kernel_rfl, List.getElem?_eq_getElem (by omega)] at f1
  rw [show Try.prog.cellsOf 23 = 1 from by kernel_rfl, List.getElem?_eq_getElem (by omega)] at f2
  rw [show Try.prog.cellsOf 24 = 1 from by kernel_rfl, List.getElem?_eq_getElem (by omega)] at f3
  simp only [List.drop_zero, List.drop_succ_cons, List.take_succ_cons, List.take_zero] at f0 f1 f2 f3
  obtain ⟨z0, hz0, _, hw0⟩ := DataW.trod_int Try.underlying22 f0
  obtain ⟨b1, hb1, _⟩ := DataW.trod_bool Try.underlying4 f1
  simp at hz0 hb1
  subst hz0 hb1
  obtain ⟨g0, g1⟩ := bounds_u64 hw0
  obtain ⟨N, rfl⟩ := Int.eq_ofNat_of_zero_le g0
  -- the bytes
  have hD : ∃ d : List UInt8, d.length ≤ maxLen ∧ (C.sl 1 (d.map byteC)).rep (· < W.heap.size) W v2 := by
    rcases open_ints Try.underlying23 Try.underlying5 hc1 f2 with ⟨hcs, _⟩ | ⟨a, len, cap, zs, hcs, _, hl, hm, hz, _, hcell, hwz⟩
    · simp only [List.cons.injEq, and_true] at hcs
      subst hcs
      exact ⟨[], by simp, rep_none 1⟩
    · simp only [List.cons.injEq, and_true] at hcs
      subst hcs
      have hzl : len ≤ zs.length := by rw [hz]; split <;> omega
      refine ⟨(zs.take len).map (fun z => z.toNat.toUInt8), by simp; omega, ?_⟩
      have hdl : ((zs.take len).map (fun z => z.toNat.toUInt8)).length = len := by simp; omega
      rw [C.rep]
      refine ⟨some a, len, cap, rfl, by simp; omega, hl, hm, by simp, ?_⟩
      by_cases h0 : len = 0
      · subst h0; rw [List.take_zero, List.map_nil, List.map_nil, C.row]; trivial
      · obtain ⟨b, off, rfl, hc⟩ := ints_at hcell (by omega)
        refine C.row_of (ok := (· < W.heap.size)) (cell_lt (hc 0 (by omega))) fun i hi => ?_
        have hi' : i < len := by simp at hi; omega
        refine ⟨_, by simpa using hc i (by omega), ?_⟩
        have hmem : zs.getD i 0 ∈ zs := by rw [List.getD_eq_getElem?_getD, List.getElem?_eq_getElem (by omega)]; exact List.getElem_mem _
        obtain ⟨x0, x1⟩ := bounds_u8 (hwz _ hmem)
        simp only [List.getElem_map, byteC]
        rw [C.rep]
        rw [byte_of _ (by rw [List.getElem_take]; rw [List.getD_eq_getElem?_getD, List.getElem?_eq_getElem (by omega)] at x0; exact x0) (by rw [List.getElem_take]; rw [List.getD_eq_getElem?_getD, List.getElem?_eq_getElem (by omega)] at x1; exact x1)]
        rw [List.getElem_take, List.getElem?_eq_getElem (by omega)]
        rfl
  -- the parts
  have hK : ∃ ks : List Tr, ks.length ≤ maxLen ∧ Tr.oks ks ∧ (C.sl 4 (Tr.cs ks)).rep (· < W.heap.size) W v3 := by
    rcases DataW.trod_slice Try.underlying24 f3 with ⟨hcs, _⟩ | ⟨a, len, cap, elems, rest, n', rfl, hcs, hx, hb, hl, hm, hel, hE, _, _⟩
    · simp only [List.cons.injEq, and_true] at hcs
      subst hcs
      exact ⟨[], by simp, by rw [Tr.oks]; trivial, by rw [Tr.cs]; exact rep_none 4⟩
    · simp only [List.cons.injEq, and_true] at hcs
      subst hcs
      rw [hc4] at hE
      have each : ∀ i, i < len → ∃ t : Tr, t.ok ∧ ∃ vs, C.reps (· < W.heap.size) W t.c vs ∧ ∀ j, j < 4 → W.cell? ((a.add (i * 4)).add j) = vs[j]? := by
        intro i hi
        have h1 := hE i hi
        rw [List.getElem?_eq_getElem (by omega), Option.bind_eq_some_iff] at h1
        obtain ⟨vs, h2, h3⟩ := h1
        obtain ⟨t, ho, hr⟩ := ih n' (by omega) vs _ h3
        obtain ⟨_, _, h4⟩ := World.cells?_some h2
        exact ⟨t, ho, vs, hr, h4⟩
      obtain ⟨ks, hkl, hk⟩ := choose_list len each
      refine ⟨ks, by omega, Tr.oks_of ks (fun j hj => (hk j hj).1), ?_⟩
      rw [C.rep]
      refine ⟨some a, len, cap, rfl, by rw [Tr.cs_length, hkl], hl, hm, by simp, ?_⟩
      by_cases h0 : len = 0
      · have : ks = [] := List.length_eq_zero_iff.1 (by omega)
        subst this; rw [Tr.cs, C.row]; trivial
      · obtain ⟨b, off, spot⟩ := a
        have hspot : spot = none := by
          obtain ⟨_, vs, hr, hc⟩ := hk 0 (by omega)
          obtain ⟨u, c, hu, _, _⟩ := reps_four hr 0 (by omega)
          have := hc 0 (by omega)
          rw [hu] at this
          simpa [Addr.add] using World.cell?_spot this
        subst hspot
        have key : ∀ q (hq : q < ks.length) r, r < 4 → ∃ u c, W.cell? ⟨b, off + (q * 4 + r), none⟩ = some u ∧ ks[q].c[r]? = some c ∧ c.rep (· < W.heap.size) W u := by
          intro q hq r hr
          obtain ⟨_, vs, hrp, hc⟩ := hk q hq
          obtain ⟨u, c, hu, hcc, hcr⟩ := reps_four hrp r hr
          have h1 := hc r hr
          rw [hu, add_plain, add_plain, Nat.add_assoc] at h1
          exact ⟨u, c, h1, hcc, hcr⟩
        have hblk : b < W.heap.size := by
          obtain ⟨u, _, hu, _, _⟩ := key 0 (by omega) 0 (by omega)
          exact cell_lt hu
        refine C.row_of (ok := (· < W.heap.size)) hblk fun i hi => ?_
        rw [Tr.cs_length] at hi
        obtain ⟨u, c, hu, hcc, hcr⟩ := key (i / 4) (by omega) (i % 4) (by omega)
        have hi4 : i / 4 * 4 + i % 4 = i := by omega
        rw [hi4] at hu
        have hcs := Tr.cs_at ks (i / 4) (i % 4) (by omega) (by omega)
        rw [hi4, hcc] at hcs
        have hce : (Tr.cs ks)[i]'(by rw [Tr.cs_length]; omega) = c := (List.getElem?_eq_some_iff.1 hcs).2
        exact ⟨u, by rw [Nat.zero_add]; exact hu, by rw [hce]; exact hcr⟩
  obtain ⟨d, hd1, hd2⟩ := hD
  obtain ⟨ks, hk1, hk2, hk3⟩ := hK
  refine ⟨.node N b1 d ks, ⟨by omega, hd1, hk1, hk2⟩, ?_⟩
  rw [Tr.c]
  refine ⟨?_, ?_, hd2, hk3, trivial⟩
  · rw [C.rep]
  · rw [C.rep]

/-- The argument is a tree. -/
theorem tree_arg {H : Type} {enc : TypeId × Value → H} {W : World} {base : Nat} {spare : Nat → Bool} {held : Bool} {r : Reach} {b : Nat} {v : Value} {d : DataW H} {p : List MemPlace} (hok : Value.okWide Try.prog W r b 26 v) (h : DataW.Trod enc Try.prog W base spare held 26 v d p) :
    ∃ (t : Tr) (dv kv : Value), v = .agg #[.int .u64 (t.num : Int), .bool t.blank, dv, kv] ∧ t.ok ∧ TrAt (· < W.heap.size) W t dv kv := by
  obtain ⟨cs, rfl, hs⟩ := okWide_struct Try.underlying26 hok
  obtain ⟨fuel, hf⟩ := h
  obtain ⟨t, ho, hr⟩ := tree_open enc W base spare held fuel _ _ hf
  obtain ⟨dv, kv, he, ht⟩ := TrAt.of_reps hr
  refine ⟨t, dv, kv, ?_, ho, ht⟩
  obtain ⟨l⟩ := cs
  have : l = [.int .u64 (t.num : Int), .bool t.blank, dv, kv] := he
  subst this
  rfl
end Go.Proofs.Ytdogiobppeemiaa
