/- tree.Num, Blank, Data, Of; guipurelaw17.few: walks. -/
import Derived.Test.YtdogiobppeemiaaTc
namespace Go.Proofs.Ytdogiobppeemiaa
set_option linter.unusedSimpArgs false
set_option linter.unusedVariables false
set_option linter.unnecessarySimpa false
open Go.RowKit

theorem num_any (n : Int) (w : World) :
    Calls Try.prog 22 #[.int .u64 n] w fun e w' => e = .returned (.agg #[.int .u64 n, .bool false, .slice none 0 0, .slice none 0 0]) ∧ Below w.heap.size w w' := by
  go_enter Try.func22, Try.ntmps22
  go_wp2_with fail
  exact bodyPost_ret (v := .agg #[.int .u64 n, .bool false, .slice none 0 0, .slice none 0 0]) (by simp [results, Try.results22, go_sem]) rfl ⟨rfl, below_al (Below.refl _ _) _⟩
theorem blank_any (w : World) :
    Calls Try.prog 23 #[] w fun e w' => e = .returned (.agg #[.int .u64 0, .bool true, .slice none 0 0, .slice none 0 0]) ∧ Below w.heap.size w w' := by
  go_enter Try.func23, Try.ntmps23
  go_wp2_with fail
  exact bodyPost_ret (v := .agg #[.int .u64 0, .bool true, .slice none 0 0, .slice none 0 0]) (by simp [results, Try.results23, go_sem]) rfl ⟨rfl, below_al (Below.refl _ _) _⟩

/-- A fresh tree as a result. -/
def NewTree (t : Tr) (w : World) (e : Ending) (w' : World) : Prop :=
  ∃ dv kv, e = .returned (.agg #[.int .u64 (t.num : Int), .bool t.blank, dv, kv]) ∧ TrAt (· < w'.heap.size) w' t dv kv ∧ Below w.heap.size w w'

set_option maxHeartbeats 800000 in
theorem data_any (d : List UInt8) (dv : Value) (w : World) (hd : (C.sl 1 (d.map byteC)).rep (· < w.heap.size) w dv) (hl : d.length ≤ 1000000) :
    Calls Try.prog 24 #[dv] w (NewTree (.node 0 false d []) w) := by
  have hc := fun A => cloneBytes_any d dv (w.alloc A) (C.rep_mono (fun _ h => Nat.lt_of_lt_of_le h (by rw [size_al]; omega)) (fun b h => heap_old A h) _ _ hd) (by omega)
  have HC := Lib.hid hc
  clear hc
  obtain ⟨a, cap, rfl, _, _, _, _⟩ := data_form hd
  clear hd
  go_enter Try.func24, Try.ntmps24
  go_wp2_with fail
  refine (HC.out _).mono ?_
  rintro e w2 ⟨v2, rfl, hown, hb2⟩
  obtain ⟨a2, c2, rfl⟩ := owned_form hown
  have hr : w2.heap[w.heap.size]? = some (.cells #[.int .u64 0, .bool false, .slice none 0 0, .slice none 0 0] 26 (0, 0)) := (hb2.block _ (by rw [size_al]; omega)).trans (heap_new _ _)
  have hR := fun j => cell_of_heap (j := j) hr
  have hRf := fun j => free_of_heap (j := j) hr
  have R0 := hR 0
  have R1 := hR 1
  have R2 := hR 2
  have R3 := hR 3
  simp only [List.getElem?_toArray, List.getElem?_cons_succ, List.getElem?_cons_zero] at R0 R1 R2 R3
  have hs := hb2.size
  rw [size_al] at hs
  have HB := Lib.hid hb2
  have HO := Lib.hid hown
  clear hb2 hown hr hR
  go_wp2_with fail
  refine bodyPost_ret (v := .agg #[.int .u64 0, .bool false, .slice a2 d.length c2, .slice none 0 0]) (by simp [results, Try.results24, go_sem, R0, R1, R2, R3]) rfl ?_
  refine ⟨_, _, rfl, ⟨?_, ?_⟩, below_set4 (below_tr (below_al (Below.refl _ _) _) HB.out) (Nat.le_refl _) _ _ _ _⟩
  · exact C.rep_of_owned (owned_kept HO.out (Nat.le_refl _) (fun g hg => heap_set4_ne _ _ _ _ (by have := owned_lt HO.out g hg; rw [size_al] at this; omega))) (bytes_reps _ _ _) (fun g hg => by show g < (set4 w2 _ _ _ _ _).heap.size; rw [size_set4]; exact (owned_lt HO.out g hg).2)
  · rw [C.rep]; exact ⟨none, 0, 0, rfl, by rw [Tr.cs]; rfl, by omega, by unfold maxLen; omega, fun _ => rfl, by rw [Tr.cs, C.row]; trivial⟩

set_option maxHeartbeats 800000 in
theorem of_any (ks : List Tr) (kv : Value) (w : World) (hk : (C.sl 4 (Tr.cs ks)).rep (· < w.heap.size) w kv) (hl : ks.length ≤ 1000000) :
    Calls Try.prog 21 #[kv] w (NewTree (.node 0 false [] ks) w) := by
  have hc := fun A => cloneTrees_any w.heap.size ks kv (w.alloc A) (by rw [size_al]; omega) (C.rep_mono (fun _ h => h) (fun b h => heap_old A h) _ _ hk) hl
  have HC := Lib.hid hc
  clear hc
  obtain ⟨a, cap, rfl, _, _, _, _⟩ := kids_form hk
  clear hk
  go_enter Try.func21, Try.ntmps21
  go_wp2_with fail
  refine (HC.out _).mono ?_
  rintro e w2 ⟨v2, xs, rfl, hown, hx, hb2⟩
  obtain ⟨a2, c2, rfl⟩ := owned_form hown
  have hr : w2.heap[w.heap.size]? = some (.cells #[.int .u64 0, .bool false, .slice none 0 0, .slice none 0 0] 26 (0, 0)) := (hb2.block _ (by rw [size_al]; omega)).trans (heap_new _ _)
  have hR := fun j => cell_of_heap (j := j) hr
  have hRf := fun j => free_of_heap (j := j) hr
  have R0 := hR 0
  have R1 := hR 1
  have R2 := hR 2
  have R3 := hR 3
  simp only [List.getElem?_toArray, List.getElem?_cons_succ, List.getElem?_cons_zero] at R0 R1 R2 R3
  have hs := hb2.size
  rw [size_al] at hs
  have HB := Lib.hid hb2
  have HO := Lib.hid hown
  have HX := Lib.hid hx
  clear hb2 hown hr hR hx
  go_wp2_with fail
  refine bodyPost_ret (v := .agg #[.int .u64 0, .bool false, .slice none 0 0, .slice a2 ks.length c2]) (by simp [results, Try.results21, go_sem, R0, R1, R2, R3]) rfl ?_
  refine ⟨_, _, rfl, ⟨?_, ?_⟩, below_set4 (below_tr (below_al (Below.refl _ _) _) HB.out) (Nat.le_refl _) _ _ _ _⟩
  · rw [C.rep]; exact ⟨none, 0, 0, rfl, rfl, by omega, by unfold maxLen; omega, fun _ => rfl, by rw [List.map_nil, C.row]; trivial⟩
  · refine C.rep_of_owned (owned_kept HO.out (Nat.le_refl _) (fun g hg => heap_set4_ne _ _ _ _ (by have := owned_lt HO.out g hg; rw [size_al] at this; omega))) (C.reps_mono (fun b hb => ?_) (fun b hb => ?_) _ _ HX.out) (fun g hg => by show g < (set4 w2 _ _ _ _ _).heap.size; rw [size_set4]; exact (owned_lt HO.out g hg).2)
    · show b < (set4 w2 _ _ _ _ _).heap.size
      have : b < w.heap.size := hb
      rw [size_set4]; omega
    · have h1 : b < w.heap.size := hb
      exact (heap_set4_ne _ _ _ _ (by omega)).trans (HB.out.block _ (by rw [size_al]; omega))

mutual
/-- What few leaves of a number that is counted down, and whether it says yes: as the law looks at a tree. -/
def Tr.few : Tr → Int → Nat → Bool × Int
  | .node _ _ d ks, left, deep => if left - 1 < 0 ∨ 100 < deep ∨ 200 < ks.length ∨ 300 < d.length then (false, left - 1) else Tr.fews ks (left - 1) (deep + 1)
def Tr.fews : List Tr → Int → Nat → Bool × Int
  | [], left, _ => (true, left)
  | t :: r, left, deep => if (Tr.few t left deep).1 = true then Tr.fews r (Tr.few t left deep).2 deep else (false, (Tr.few t left deep).2)
end
mutual
theorem Tr.few_bd : ∀ (t : Tr) (left : Int) (deep : Nat), 0 ≤ left → (-1 ≤ (t.few left deep).2 ∧ (t.few left deep).2 ≤ left - 1) ∧ ((t.few left deep).1 = true → 0 ≤ (t.few left deep).2 ∧ (t.size : Int) ≤ left - (t.few left deep).2 ∧ t.small)
  | .node n b d ks, left, deep, h => by
    rw [Tr.few]
    split
    · exact ⟨⟨by simp only; omega, by simp only; omega⟩, fun h => by simp at h⟩
    · rename_i hc
      obtain ⟨h1, h2⟩ := Tr.fews_bd ks (left - 1) (deep + 1) (by omega)
      refine ⟨by omega, fun ht => ?_⟩
      obtain ⟨h3, h4, h5⟩ := h2 ht
      rw [Tr.size, Tr.small]
      exact ⟨h3, by omega, by omega, by omega, h5⟩
theorem Tr.fews_bd : ∀ (ks : List Tr) (left : Int) (deep : Nat), 0 ≤ left → (-1 ≤ (Tr.fews ks left deep).2 ∧ (Tr.fews ks left deep).2 ≤ left) ∧ ((Tr.fews ks left deep).1 = true → 0 ≤ (Tr.fews ks left deep).2 ∧ (Tr.sizes ks : Int) ≤ left - (Tr.fews ks left deep).2 ∧ Tr.smalls ks)
  | [], left, deep, h => by
    rw [Tr.fews]
    exact ⟨⟨by simp only; omega, by simp only; omega⟩, fun _ => ⟨h, by simp [Tr.sizes], by rw [Tr.smalls]; trivial⟩⟩
  | t :: r, left, deep, h => by
    rw [Tr.fews]
    obtain ⟨h1, h2⟩ := Tr.few_bd t left deep h
    split
    · rename_i ht
      obtain ⟨h3, h4, h5⟩ := h2 ht
      obtain ⟨h6, h7⟩ := Tr.fews_bd r (t.few left deep).2 deep h3
      refine ⟨by omega, fun hr => ?_⟩
      obtain ⟨h8, h9, h10⟩ := h7 hr
      rw [Tr.sizes, Tr.smalls]
      exact ⟨h8, by omega, h5, h10⟩
    · exact ⟨by simp only; omega, fun h => by simp at h⟩
end

/-- All is as it was, but one block. -/
structure Kept (L : Nat) (w w' : World) : Prop where
  os : w'.os = w.os
  tape : w'.tape = w.tape
  output : w'.output = w.output
  size : w.heap.size ≤ w'.heap.size
  block : ∀ k, k < w.heap.size → k ≠ L → w'.heap[k]? = w.heap[k]?
theorem Kept.refl (L : Nat) (w : World) : Kept L w w := ⟨rfl, rfl, rfl, Nat.le_refl _, fun _ _ _ => rfl⟩
theorem Kept.trans {L : Nat} {a b c : World} (h : Kept L a b) (k : Kept L b c) : Kept L a c :=
  ⟨k.os.trans h.os, k.tape.trans h.tape, k.output.trans h.output, Nat.le_trans h.size k.size, fun i hi hn => (k.block i (Nat.lt_of_lt_of_le hi h.size) hn).trans (h.block i hi hn)⟩
theorem Kept.of_below {L : Nat} {w w' : World} (h : Below w.heap.size w w') : Kept L w w' := ⟨h.os, h.tape, h.output, h.size, fun k hk _ => h.block k hk⟩
theorem Kept.alloc {L : Nat} {w w' : World} (h : Kept L w w') (o : Obj) : Kept L w (w'.alloc o) := h.trans (Kept.of_below (below_al (Below.refl _ _) o))
theorem Kept.set {L : Nat} {w w' : World} (h : Kept L w w') (j : Nat) (v : Value) : Kept L w (w'.setCell ⟨L, j, none⟩ v) :=
  ⟨h.os, h.tape, h.output, by simpa [World.setCell] using h.size, fun k hk hn => (heap_setCell_ne hn).trans (h.block k hk hn)⟩
theorem Kept.below {L B : Nat} {w w' : World} (h : Kept L w w') (hL : B ≤ L) (hB : B ≤ w.heap.size) : Below B w w' := ⟨h.os, h.tape, h.output, h.size, fun k hk => h.block k (by omega) (by omega)⟩

theorem heap_set1 {w : World} {b : Nat} {v u : Value} {T : TypeId} {fr : Nat × Nat} (h : w.heap[b]? = some (.cells #[v] T fr)) : (w.setCell ⟨b, 0, none⟩ u).heap[b]? = some (.cells #[u] T fr) := by
  simp [World.setCell, Array.getElem?_modify, h]

def FewPost (t : Tr) (left : Int) (deep L : Nat) (w : World) (e : Ending) (w' : World) : Prop :=
  e = .returned (.bool (t.few left deep).1) ∧ w'.heap[L]? = some (.cells #[.int .i64 (t.few left deep).2] 3 (0, 0)) ∧ Kept L w w'
def FewSaid (k : Nat) : Prop := ∀ (t : Tr) (dv kv : Value) (B L : Nat) (left : Int) (deep : Nat) (w : World), t.size ≤ k → 0 ≤ left → left ≤ 1000 → deep ≤ 200 → B ≤ L → L < w.heap.size → TrAt (· < B) w t dv kv → w.heap[L]? = some (.cells #[.int .i64 left] 3 (0, 0)) →
    Calls Try.prog 9 #[.agg #[.int .u64 (t.num : Int), .bool t.blank, dv, kv], .pointer (some ⟨L, 0, none⟩), .int .i64 (deep : Int)] w (FewPost t left deep L w)
def FewInv (ks : List Tr) (left : Int) (deep L : Nat) (w : World) (i : Value) (wr : World) : Prop :=
  ∃ (j : Nat) (l : Int), j ≤ ks.length ∧ i = .int .i64 (j : Int) ∧ wr.heap[L]? = some (.cells #[.int .i64 l] 3 (0, 0)) ∧ 0 ≤ l ∧ l ≤ 1000 ∧ Tr.fews (ks.drop j) l deep = Tr.fews ks left deep ∧ Kept L w wr

set_option maxHeartbeats 3200000 in
theorem few_step (k : Nat) (ih : FewSaid k) : FewSaid (k + 1) := by
  intro t dv kv B L left deep w hk hl0 hl1 hd hB hL ht hc
  obtain ⟨n, b, d, ks⟩ := t
  obtain ⟨a, cap, e, h1, h2, _, hks⟩ := kids_form ht.kids
  obtain ⟨ad, cd, ak, ck, rfl, rfl, h3, h4, _, _⟩ := ht.form
  simp only [Value.slice.injEq] at e hks h1 h2 h3 h4
  obtain ⟨rfl, _, rfl⟩ := e
  have hml : ks.length ≤ 9223372036854775807 := by unfold maxLen at h2; omega
  have hmd : d.length ≤ 9223372036854775807 := by unfold maxLen at h4; omega
  have IH := Lib.hid ih
  have HK := Lib.hid hks
  have HT := Lib.hid ht
  have L0 := cell_of_heap (j := 0) hc
  have Lf := free_of_heap (j := 0) hc
  have LS := fun (v : Value) => heap_set1 (u := v) hc
  have L0' := fun (v : Value) => cell_of_heap (j := 0) (LS v)
  simp only [List.getElem?_toArray, List.getElem?_cons_zero] at L0 L0'
  have LA : ∀ A (v : Value), ((w.setCell ⟨L, 0, none⟩ v).alloc A).heap[L]? = some (.cells #[v] 3 (0, 0)) := fun A v => (heap_old A (by simpa [World.setCell] using hL)).trans (LS v)
  have HLS := Lib.hid LA
  clear ih hks ht h1 h2 h3 h4 LS LA
  by_cases hc0 : left - 1 < 0 ∨ 100 < deep ∨ 200 < ks.length ∨ 300 < d.length
  · have hf : Tr.few ⟨n, b, d, ks⟩ left deep = (false, left - 1) := by rw [Tr.few, if_pos hc0]
    have HF := Lib.hid hf
    clear hf
    have hcs : left - 1 < 0 ∨ (0 ≤ left - 1 ∧ 100 < (deep : Int)) ∨ (0 ≤ left - 1 ∧ (deep : Int) ≤ 100 ∧ 200 < (ks.length : Int)) ∨ (0 ≤ left - 1 ∧ (deep : Int) ≤ 100 ∧ (ks.length : Int) ≤ 200 ∧ 300 < (d.length : Int)) := by omega
    clear hc0
    rcases hcs with q1 | ⟨q1, q2⟩ | ⟨q1, q2, q3⟩ | ⟨q1, q2, q3, q4⟩
    all_goals
      go_enter Try.func9, Try.ntmps9
      go_wp2_with fail
      go_ret
      exact ⟨ret_b (by rw [HF.out]), by rw [HF.out]; exact HLS.out _ _, ((Kept.refl _ _).set 0 _).alloc _⟩
  · have hf : Tr.few ⟨n, b, d, ks⟩ left deep = Tr.fews ks (left - 1) (deep + 1) := by rw [Tr.few, if_neg hc0]
    obtain ⟨q1, q2, q3, q4⟩ : 0 ≤ left - 1 ∧ (deep : Int) ≤ 100 ∧ (ks.length : Int) ≤ 200 ∧ (d.length : Int) ≤ 300 := by omega
    have hI : ∀ A v, v = left - 1 → FewInv ks (left - 1) (deep + 1) L w (.int .i64 0) ((w.setCell ⟨L, 0, none⟩ (.int .i64 v)).alloc A) := fun A v hv => by
      subst hv; exact ⟨0, left - 1, by omega, rfl, HLS.out _ _, by omega, by omega, rfl, ((Kept.refl _ _).set 0 _).alloc _⟩
    have HI := Lib.hid hI
    have HF := Lib.hid hf
    rw [Tr.size] at hk
    clear hf hI hc0
    go_enter Try.func9, Try.ntmps9
    go_wp2_with fail
    go_loopw [37] (fun i wr => FewInv ks (left - 1) (deep + 1) L w i wr) (fun i _ => ks.length - (intOf i).toNat)
    case atStart => exact HI.out _ _ rfl
    case round =>
      obtain ⟨j, l, hj, rfl, hcl, hl0', hl1', hfw, hkp⟩ := hrel
      by_cases hlt : j < ks.length
      · obtain ⟨g, off, rfl, hg, hcc⟩ := HK.out.resolve_left (by intro h; subst h; simp at hlt)
        obtain ⟨dv', kv', c0, c1, c2, c3, ht'⟩ := hcc j hlt
        have hgs : g < w.heap.size := by omega
        have hgL : g ≠ L := by omega
        have hcell := fun i => World.cell?_of_block (a := ⟨g, i, none⟩) (hkp.block g hgs hgL)
        rw [← hcell] at c0 c1 c2 c3
        have hdr : ks.drop j = ks[j] :: ks.drop (j + 1) := List.drop_eq_getElem_cons hlt
        rw [hdr, Tr.fews] at hfw
        have hle := Tr.sizes_at j hlt
        have hjs : ks[j].size ≤ k := by omega
        have hbd := Tr.few_bd ks[j] l (deep + 1) hl0'
        obtain ⟨ad, cd, ak, ck, rfl, rfl, _, _, _, _⟩ := ht'.form
        have HT' := Lib.hid ht'
        have HCC := Lib.hid hcc
        have HFW := Lib.hid hfw
        have HKP := Lib.hid hkp
        have HBD := Lib.hid hbd
        clear ht' hcc hfw hkp hcell hdr hbd
        generalize ks[j] = t' at *
        have hLr : L < wr.heap.size := Nat.lt_of_lt_of_le hL HKP.out.size
        have hpc : ∀ A, Calls Try.prog 9 #[.agg #[.int .u64 (t'.num : Int), .bool t'.blank, .slice ad t'.data.length cd, .slice ak t'.kids.length ck], .pointer (some ⟨L, 0, none⟩), .int .i64 ((deep : Int) + 1)] (wr.alloc A) (FewPost t' l (deep + 1) L (wr.alloc A)) := fun A =>
          IH.out t' _ _ B L l (deep + 1) (wr.alloc A) hjs hl0' hl1' (by omega) hB (by rw [size_al]; omega) (HT'.out.mono (fun _ h => h) (fun b hb => (heap_old A (by have := HKP.out.size; have : b < B := hb; omega)).trans (HKP.out.block b (by have : b < B := hb; omega) (by have : b < B := hb; omega)))) ((heap_old A hLr).trans hcl)
        have HPC := Lib.hid hpc
        clear hpc
        rcases Bool.eq_false_or_eq_true (t'.few l (deep + 1)).1 with hb | hb
        · have HB := Lib.hid hb
          obtain ⟨p0, p1, _⟩ := HBD.out.2 hb
          have p2 := HBD.out.1.2
          clear hb
          go_wp2_with fail
          refine (HPC.out _).mono ?_
          rintro e w2 ⟨rfl, hc2, hk2⟩
          rw [HB.out]
          have hN : FewInv ks (left - 1) (deep + 1) L w (.int .i64 ((j : Int) + 1)) w2 := by
            refine ⟨j + 1, _, by omega, rfl, hc2, p0, by omega, ?_, (HKP.out.alloc _).trans hk2⟩
            rw [← HFW.out, if_pos HB.out]
          have HN := Lib.hid hN
          clear hN hc2 hk2
          go_wp2_with fail
          exact ⟨HN.out, by simp [intOf]; omega⟩
        · have HB := Lib.hid hb
          clear hb
          go_wp2_with fail
          refine (HPC.out _).mono ?_
          rintro e w2 ⟨rfl, hc2, hk2⟩
          rw [HB.out]
          have HH := Lib.hid (And.intro hc2 hk2)
          clear hc2 hk2
          go_wp2_with fail
          go_ret
          have hff : Tr.few ⟨n, b, d, ks⟩ left deep = (false, (t'.few l (deep + 1)).2) := by rw [HF.out, ← HFW.out, if_neg (by rw [HB.out]; simp)]
          exact ⟨ret_b (by rw [hff]), by rw [hff]; exact HH.out.1, (HKP.out.alloc _).trans HH.out.2⟩
      · have hjl : ks.drop j = [] := List.drop_eq_nil_of_le (by omega)
        rw [hjl, Tr.fews] at hfw
        have HFW := Lib.hid hfw
        have HKP := Lib.hid (And.intro hcl hkp)
        clear hfw hjl hkp
        go_wp2_with fail
        go_ret
        exact ⟨ret_b (by rw [HF.out, ← HFW.out]), by rw [HF.out, ← HFW.out]; exact HKP.out.1, HKP.out.2⟩
theorem few_said : ∀ k, FewSaid k
  | 0 => fun t _ _ _ _ _ _ _ h => by have := t.size_pos; omega
  | k + 1 => few_step k (few_said k)
end Go.Proofs.Ytdogiobppeemiaa
