/- tree.Clone: the walk. -/
import Derived.Test.YtdogiobppeemiaaTb
import Derived.Deep.DeepCutAuto
import Derived.Deep.RegionLaw
namespace Go.Proofs.Ytdogiobppeemiaa
set_option linter.unusedSimpArgs false
set_option linter.unusedVariables false
set_option linter.unnecessarySimpa false
open Go.RowKit
attribute [local go_sem ↓] Go.wp_at_zero Go.wp_at_succ

def byteV (x : UInt8) : Value := .int .u8 (x.toNat : Int)
/-- What Clone leaves: a tree's cells in rows of its own. -/
structure Owned (B : Nat) (t : Tr) (dv kv : Value) (kxs : List Value) (w' : World) : Prop where
  data : w'.ownsRow B 5 1 dv t.data.length (t.data.map byteV)
  kids : w'.ownsRow B 26 4 kv t.kids.length kxs
  apart : ∀ g, dv.ownBlock = some g → kv.ownBlock ≠ some g
  parts : C.reps (fun b => B ≤ b ∧ b < w'.heap.size ∧ dv.ownBlock ≠ some b ∧ kv.ownBlock ≠ some b) w' (Tr.cs t.kids) kxs

theorem bytes_reps (ok : Nat → Prop) (w : World) : ∀ d : List UInt8, C.reps ok w (d.map byteC) (d.map byteV)
  | [] => trivial
  | x :: d => ⟨by rw [byteC, C.rep]; rfl, bytes_reps ok w d⟩
theorem Owned.tree {B : Nat} {t : Tr} {dv kv : Value} {kxs : List Value} {w' : World} (h : Owned B t dv kv kxs w') : TrAt (fun b => B ≤ b ∧ b < w'.heap.size) w' t dv kv :=
  ⟨C.rep_of_owned h.data (bytes_reps _ _ _) (fun g hg => owned_lt h.data g hg), C.rep_of_owned h.kids (C.reps_mono (fun _ h => ⟨h.1, h.2.1⟩) (fun _ _ => rfl) _ _ h.parts) (fun g hg => owned_lt h.kids g hg)⟩

/-- The state of Clone's loop, after j parts. -/
structure CloneSt (w : World) (t : Tr) (O : Nat) (dv kv : Value) (j : Nat) (kxs : List Value) (wx : World) : Prop where
  below : Below w.heap.size w wx
  O1 : w.heap.size + 2 ≤ O
  Olt : O < wx.heap.size
  out : wx.heap[O]? = some (.cells #[.int .u64 (t.num : Int), .bool t.blank, dv, kv] 26 (0, 0))
  res : wx.heap[w.heap.size + 1]? = some (.cells #[.int .u64 0, .bool false, .slice none 0 0, .slice none 0 0] 26 (0, 0))
  data : wx.ownsRow (w.heap.size + 2) 5 1 dv t.data.length (t.data.map byteV)
  kids : wx.ownsRow (w.heap.size + 2) 26 4 kv j kxs
  dO : dv.ownBlock ≠ some O
  kO : kv.ownBlock ≠ some O
  apart : ∀ g, dv.ownBlock = some g → kv.ownBlock ≠ some g
  parts : C.reps (fun b => w.heap.size + 2 ≤ b ∧ b < wx.heap.size ∧ b ≠ O ∧ dv.ownBlock ≠ some b ∧ kv.ownBlock ≠ some b) wx (Tr.cs (t.kids.take j)) kxs

/-- One part more: what the round does, step by step. -/
theorem CloneSt.next {w wr w2 w3 w4 : World} {t k : Tr} {O j : Nat} {dv kv v' dv' kv' : Value} {kxs kxs' : List Value} (h : CloneSt w t O dv kv j kxs wr) (hj : j < t.kids.length) (hk : t.kids[j] = k)
    (B' : Nat) (hB' : wr.heap.size ≤ B') (h2 : Below wr.heap.size wr w2) (hown : Owned B' k dv' kv' kxs' w2) (h3 : Below w2.heap.size w2 w3)
    (h4 : w3.grownBy w4 kv.ownBlock) (hv : w4.ownsRow (w.heap.size + 2) 26 4 v' (j + 1) (kxs ++ [.int .u64 (k.num : Int), .bool k.blank, dv', kv'])) (hb : v'.ownBlock = kv.ownBlock ∨ v'.ownBlock = some w3.heap.size) :
    CloneSt w t O dv v' (j + 1) (kxs ++ [.int .u64 (k.num : Int), .bool k.blank, dv', kv']) (w4.setCell ⟨O, 3, none⟩ v') := by
  have s2 := h2.size
  have s3 := h3.size
  have s4 := h4.size
  have sO := h.Olt
  have e24 : ∀ b, b < w2.heap.size → kv.ownBlock ≠ some b → w4.heap[b]? = w2.heap[b]? := fun b h1 hn => (h4.block b (by omega) (fun e => hn e.symm)).trans (h3.block b h1)
  have er4 : ∀ b, b < wr.heap.size → kv.ownBlock ≠ some b → w4.heap[b]? = wr.heap[b]? := fun b h1 hn => (e24 b (by omega) hn).trans (h2.block b h1)
  have hO4 : w4.heap[O]? = some (.cells #[.int .u64 (t.num : Int), .bool t.blank, dv, kv] 26 (0, 0)) := (er4 O sO h.kO).trans h.out
  have hkg : ∀ g, kv.ownBlock = some g → w.heap.size + 2 ≤ g ∧ g < wr.heap.size := fun g hg => owned_lt h.kids g hg
  have hdg : ∀ g, dv.ownBlock = some g → w.heap.size + 2 ≤ g ∧ g < wr.heap.size := fun g hg => owned_lt h.data g hg
  have hO1 := h.O1
  have hv'O : v'.ownBlock ≠ some O := by
    rcases hb with e | e
    · rw [e]; exact h.kO
    · rw [e]; intro e; simp only [Option.some.injEq] at e; omega
  have hsz : (w4.setCell ⟨O, 3, none⟩ v').heap.size = w4.heap.size := by simp [World.setCell]
  have hw3 : Below w.heap.size w w3 := h.below.trans ((h2.trans (h3.mono h2.size)).mono h.below.size)
  refine ⟨?_, hO1, by rw [hsz]; omega, ?_, ?_, ?_, ?_, h.dO, hv'O, ?_, ?_⟩
  · exact (hw3.grown h4 hw3.size (fun g hg => by have := hkg g hg; omega)).setCell (by show w.heap.size ≤ O; omega) _
  · simp [World.setCell, Array.getElem?_modify, hO4]
  · rw [heap_setCell_ne (by omega), er4 _ (by omega) (fun e => by have := hkg _ e; omega)]; exact h.res
  · exact owned_kept h.data (Nat.le_refl _) (fun g hg => by
      have := hdg g hg
      rw [heap_setCell_ne (fun e => h.dO (by rw [hg, e])), er4 g (by omega) (h.apart g hg)])
  · exact owned_kept hv (Nat.le_refl _) (fun g hg => by rw [heap_setCell_ne (fun e => hv'O (by rw [hg, e]))])
  · intro g hg e
    rcases hb with h' | h'
    · rw [h'] at e; exact h.apart g hg e
    · rw [h'] at e; simp only [Option.some.injEq] at e; have := hdg g hg; omega
  · rw [List.take_succ_eq_append_getElem hj, Tr.cs_append, Tr.cs_one, hk]
    refine C.reps_append ?_ ?_
    · refine C.reps_mono (fun b hb' => ?_) (fun b hb' => ?_) _ _ h.parts
      · obtain ⟨q1, q2, q3, q4, q5⟩ := hb'
        refine ⟨q1, by rw [hsz]; omega, q3, q4, fun e => ?_⟩
        rcases hb with h' | h'
        · rw [h'] at e; exact q5 e
        · rw [h'] at e; simp only [Option.some.injEq] at e; omega
      · obtain ⟨q1, q2, q3, q4, q5⟩ := hb'
        rw [heap_setCell_ne q3, er4 b q2 q5]
    · refine C.reps_mono (fun b hb' => ?_) (fun b hb' => ?_) _ _ hown.tree.reps
      · obtain ⟨q1, q2⟩ := hb'
        refine ⟨by omega, by rw [hsz]; omega, by omega, fun e => by have := hdg b e; omega, fun e => ?_⟩
        rcases hb with h' | h'
        · rw [h'] at e; have := hkg b e; omega
        · rw [h'] at e; simp only [Option.some.injEq] at e; omega
      · obtain ⟨q1, q2⟩ := hb'
        rw [heap_setCell_ne (by omega), e24 b q2 (fun e => by have := hkg b e; omega)]

theorem CloneSt.start {w wx : World} {t : Tr} {O : Nat} {dv : Value} (hb : Below w.heap.size w wx) (O1 : w.heap.size + 2 ≤ O) (Olt : O < wx.heap.size)
    (out : wx.heap[O]? = some (.cells #[.int .u64 (t.num : Int), .bool t.blank, dv, .slice none 0 0] 26 (0, 0)))
    (res : wx.heap[w.heap.size + 1]? = some (.cells #[.int .u64 0, .bool false, .slice none 0 0, .slice none 0 0] 26 (0, 0)))
    (data : wx.ownsRow (w.heap.size + 2) 5 1 dv t.data.length (t.data.map byteV)) (dO : dv.ownBlock ≠ some O) : CloneSt w t O dv (.slice none 0 0) 0 [] wx :=
  ⟨hb, O1, Olt, out, res, data, World.ownsRow_nil _ _ _ _, dO, by simp [Value.ownBlock], fun _ _ => by simp [Value.ownBlock], by rw [List.take_zero, Tr.cs]; trivial⟩
theorem CloneSt.way1 {w W w2 : World} {t : Tr} {dv : Value} {B : Nat} (hW : Below w.heap.size w W) (hs : W.heap.size = w.heap.size + 2)
    (hr : W.heap[w.heap.size + 1]? = some (.cells #[.int .u64 0, .bool false, .slice none 0 0, .slice none 0 0] 26 (0, 0))) (h2 : Below W.heap.size W w2) (hB : W.heap.size ≤ B)
    (data : w2.ownsRow B 5 1 dv t.data.length (t.data.map byteV)) : CloneSt w t w2.heap.size dv (.slice none 0 0) 0 [] (w2.alloc (.cells #[.int .u64 (t.num : Int), .bool t.blank, dv, .slice none 0 0] 26)) := by
  have s2 := h2.size
  refine CloneSt.start (below_al (below_tr hW h2) _) (by omega) (by rw [size_al]; omega) (heap_new _ _) ?_ (owned_kept data (by omega) (fun g hg => heap_old _ (owned_lt data g hg).2)) (fun e => by have := owned_lt data _ e; omega)
  rw [heap_old _ (by omega), h2.block _ (by omega)]; exact hr
theorem CloneSt.way2 {w W w2 : World} {t : Tr} {dv : Value} {B : Nat} (hW : Below w.heap.size w W) (hs : W.heap.size = w.heap.size + 3)
    (hr : W.heap[w.heap.size + 1]? = some (.cells #[.int .u64 0, .bool false, .slice none 0 0, .slice none 0 0] 26 (0, 0)))
    (ho : W.heap[w.heap.size + 1 + 1]? = some (.cells #[.int .u64 0, .bool false, .slice none 0 0, .slice none 0 0] 26 (0, 0))) (h2 : Below W.heap.size W w2) (hB : W.heap.size ≤ B)
    (data : w2.ownsRow B 5 1 dv t.data.length (t.data.map byteV)) : CloneSt w t (w.heap.size + 1 + 1) dv (.slice none 0 0) 0 [] (set4 w2 (w.heap.size + 1 + 1) (.int .u64 (t.num : Int)) (.bool t.blank) dv (.slice none 0 0)) := by
  have s2 := h2.size
  refine CloneSt.start (below_set4 (below_tr hW h2) (by omega) _ _ _ _) (by omega) (by rw [size_set4]; omega) (heap_set4 _ _ _ _ ((h2.block _ (by omega)).trans ho)) ?_
    (owned_kept data (by omega) (fun g hg => heap_set4_ne _ _ _ _ (by have := owned_lt data g hg; omega))) (fun e => by have := owned_lt data _ e; omega)
  rw [heap_set4_ne _ _ _ _ (by omega), h2.block _ (by omega)]; exact hr
/-- The two blocks that are made first. -/
theorem two_blocks (w : World) (A R : Obj) : Below w.heap.size w ((w.alloc A).alloc R).drew ∧ ((w.alloc A).alloc R).drew.heap.size = w.heap.size + 2 ∧ ((w.alloc A).alloc R).drew.heap[w.heap.size + 1]? = some R ∧ ((w.alloc A).alloc R).drew.heap[w.heap.size]? = some A := by
  refine ⟨(below_al (below_al (Below.refl _ _) _) _).drew, by show ((w.alloc A).alloc R).heap.size = _; rw [size_al, size_al], ?_, ?_⟩
  · show ((w.alloc A).alloc R).heap[w.heap.size + 1]? = _
    rw [← size_al w A]; exact heap_new _ _
  · show ((w.alloc A).alloc R).heap[w.heap.size]? = _
    rw [heap_old _ (by rw [size_al]; omega)]; exact heap_new _ _
theorem three_blocks (w : World) (A R Z : Obj) : Below w.heap.size w (((w.alloc A).alloc R).alloc Z).drew ∧ (((w.alloc A).alloc R).alloc Z).drew.heap.size = w.heap.size + 3 ∧ (((w.alloc A).alloc R).alloc Z).drew.heap[w.heap.size + 1]? = some R ∧ (((w.alloc A).alloc R).alloc Z).drew.heap[w.heap.size + 1 + 1]? = some Z ∧ (((w.alloc A).alloc R).alloc Z).drew.heap[w.heap.size]? = some A := by
  obtain ⟨_, h2, h3, h4⟩ := two_blocks w A R
  have e : ((w.alloc A).alloc R).heap.size = w.heap.size + 2 := h2
  refine ⟨(below_al (below_al (below_al (Below.refl _ _) _) _) _).drew, by show (((w.alloc A).alloc R).alloc Z).heap.size = _; rw [size_al, e], ?_, ?_, ?_⟩
  · show (((w.alloc A).alloc R).alloc Z).heap[w.heap.size + 1]? = _
    rw [heap_old _ (by omega)]; exact h3
  · show (((w.alloc A).alloc R).alloc Z).heap[w.heap.size + 1 + 1]? = _
    rw [show w.heap.size + 1 + 1 = ((w.alloc A).alloc R).heap.size from by omega]; exact heap_new _ _
  · show (((w.alloc A).alloc R).alloc Z).heap[w.heap.size]? = _
    rw [heap_old _ (by omega)]; exact h4

theorem cloneS {w' : World} {O K : Nat} {v0 v1 v2 v3 : Value} (h1 : ∃ v, w'.cell? ⟨O, 3, none⟩ = some v) (h2 : w'.heap[K]? = some (.cells #[v0, v1, v2, v3] 26 (0, 0))) :
    w'.cell? ⟨O, 3, none⟩ = some (peek w' O 3) ∧ w'.cell? ⟨K, 0, none⟩ = some v0 ∧ w'.cell? ⟨K, 1, none⟩ = some v1 ∧ w'.cell? ⟨K, 2, none⟩ = some v2 ∧ w'.cell? ⟨K, 3, none⟩ = some v3 := by
  obtain ⟨v, h1⟩ := h1
  exact ⟨peek_cell h1, cell_of_heap h2, cell_of_heap h2, cell_of_heap h2, cell_of_heap h2⟩
theorem cell_any {w : World} {b : Nat} {v0 v1 v2 v3 : Value} {T : TypeId} {fr : Nat × Nat} (h : w.heap[b]? = some (.cells #[v0, v1, v2, v3] T fr)) : w.cell? ⟨b, 3, none⟩ = some v3 := cell_of_heap h

theorem CloneSt.finish {w wr : World} {t : Tr} {O j : Nat} {dv kv : Value} {kxs : List Value} (h : CloneSt w t O dv kv j kxs wr) (hj : j = t.kids.length) (d0 d1 d2 d3 : Value) :
    Owned w.heap.size t dv kv kxs (set4 wr (w.heap.size + 1) d0 d1 d2 d3) ∧ Below w.heap.size w (set4 wr (w.heap.size + 1) d0 d1 d2 d3) := by
  subst hj
  have hp := h.parts
  rw [List.take_length] at hp
  refine ⟨⟨owned_kept h.data (by omega) (fun g hg => heap_set4_ne _ _ _ _ (by have := owned_lt h.data g hg; omega)), owned_kept h.kids (by omega) (fun g hg => heap_set4_ne _ _ _ _ (by have := owned_lt h.kids g hg; omega)), h.apart, ?_⟩, below_set4 h.below (by omega) _ _ _ _⟩
  exact C.reps_mono (fun b hb => ⟨by omega, by rw [size_set4]; exact hb.2.1, hb.2.2.2⟩) (fun b hb => heap_set4_ne _ _ _ _ (by omega)) _ _ hp

/-- tree.Clone's post. -/
def Cloned (t : Tr) (w : World) (e : Ending) (w' : World) : Prop :=
  ∃ dv kv kxs, e = .returned (.agg #[.int .u64 (t.num : Int), .bool t.blank, dv, kv]) ∧ Owned w.heap.size t dv kv kxs w' ∧ Below w.heap.size w w'
def CloneSaid (k : Nat) : Prop := ∀ (t : Tr) (dv kv : Value) (w : World), t.size ≤ k → t.small → TrAt (· < w.heap.size) w t dv kv →
    Calls Try.prog 14 #[.agg #[.int .u64 (t.num : Int), .bool t.blank, dv, kv]] w (Cloned t w)
/-- The state at the loop's head. -/
def CloneInv (w : World) (t : Tr) (O : Nat) (dv : Value) (i : Value) (wx : World) : Prop :=
  ∃ j kv kxs, j ≤ t.kids.length ∧ i = .int .i64 (j : Int) ∧ CloneSt w t O dv kv j kxs wx

set_option maxHeartbeats 3200000 in
theorem clone_step (k : Nat) (ih : CloneSaid k) : CloneSaid (k + 1) := by
  intro t dv kv w hk hsm ht
  have hcl := fun W (hW : Below w.heap.size w W) (hl : t.data.length ≤ 140737488355328) => cloneBytes_any t.data dv W (ht.up hW).data hl
  obtain ⟨ad, cd, ak, ck, rfl, rfl, h1, h2, h3, h4⟩ := ht.form
  have HC := Lib.hid hcl
  have hl : t.data.length ≤ 140737488355328 := by
    cases t; rw [Tr.small] at hsm; have := hsm.1; simp only; omega
  have hbw : Below w.heap.size w w := Below.refl _ _
  have IH := Lib.hid ih
  have HT := Lib.hid ht
  have HS := Lib.hid hsm
  clear hcl ih ht hsm
  unfold maxLen at h2 h4
  go_enter Try.func14, Try.ntmps14
  go_upto_region 1 with fail
  go_cut [3] (fun s3 wx => ∃ O dv, s3 = .pointer (some ⟨O, 0, none⟩) ∧ CloneSt w t O dv (.slice none 0 0) 0 [] wx ∧ wx.cell? ⟨w.heap.size, 3, none⟩ = some (.slice ak t.kids.length ck))
  case first =>
    go_region_held3 (fun w' => w'.cell? ⟨w.heap.size, 0, none⟩ = some (.int .u64 (t.num : Int)) ∧ w'.cell? ⟨w.heap.size, 1, none⟩ = some (.bool t.blank) ∧ w'.cell? ⟨w.heap.size, 2, none⟩ = some (.slice ad t.data.length cd))
      (refine ⟨?_, ?_, ?_⟩ <;> (first | (simp [go_sem, *]; done) | (exact cell_alloc' (by omega) (by first | assumption | (simp [go_sem, *]; done)))))
      ((go_at_call 30; refine (HC.out _ ?_ hl).mono ?_; (focus (repeat (first | exact Below.refl _ _ | (refine Below.drew ?_) | (refine below_al ?_ _)))); rintro e w2 ⟨v2, rfl, hown2, hb2⟩; obtain ⟨a2, c2, rfl⟩ := owned_form hown2; obtain ⟨hc2, hf2⟩ := bcell hb2; have hz2 : w.heap.size + 1 < w2.heap.size := (by have := hb2.size; simp at this; omega)))
    all_goals go_wp2_with fail
    all_goals go_meet
    · obtain ⟨b1, b2, b3, b4⟩ := two_blocks w (.cells #[.int .u64 (t.num : Int), .bool t.blank, .slice ad t.data.length cd, .slice ak t.kids.length ck] 26) (.cells #[.int .u64 0, .bool false, .slice none 0 0, .slice none 0 0] 26)
      refine ⟨_, _, rfl, CloneSt.way1 b1 b2 b3 hb2 (Nat.le_refl _) hown2, ?_⟩
      rw [cell_of_heap ((heap_old _ (by omega)).trans ((hb2.block _ (by omega)).trans b4))]; rfl
    · obtain ⟨b1, b2, b3, b5, b4⟩ := three_blocks w (.cells #[.int .u64 (t.num : Int), .bool t.blank, .slice ad t.data.length cd, .slice ak t.kids.length ck] 26) (.cells #[.int .u64 0, .bool false, .slice none 0 0, .slice none 0 0] 26) (.cells #[.int .u64 0, .bool false, .slice none 0 0, .slice none 0 0] 26)
      refine ⟨_, _, rfl, CloneSt.way2 b1 b2 b3 b5 hb2 (Nat.le_refl _) hown2, ?_⟩
      exact (cell_of_heap ((heap_set4_ne _ _ _ _ (by omega)).trans ((hb2.block _ (by omega)).trans b4))).trans rfl
  case rest =>
    obtain ⟨O, dv, rfl, hst, hkc⟩ := hcut
    go_wp2_with fail
    go_loopw [17] (fun i wr => CloneInv w t O dv i wr) (fun i _ => t.kids.length - (intOf i).toNat)
    case atStart => exact ⟨0, _, _, by omega, rfl, hst⟩
    case round =>
      obtain ⟨j, kv, kxs, hj, rfl, hst⟩ := hrel
      clear hkc
      have hkf := HT.out.kids
      obtain ⟨_, _, e, _, _, _, hks⟩ := kids_form hkf
      simp only [Value.slice.injEq] at e
      obtain ⟨rfl, _, rfl⟩ := e
      have hml : t.kids.length ≤ 9223372036854775807 := by omega
      have hO := cell_of_heap (j := 3) hst.out
      have hOf := free_of_heap (j := 3) hst.out
      have hOlt := hst.Olt
      obtain ⟨ka, kc, rfl⟩ := owned_form hst.kids
      simp only [List.getElem?_toArray, List.getElem?_cons_succ, List.getElem?_cons_zero] at hO
      by_cases hlt : j < t.kids.length
      · obtain ⟨g, off, rfl, hg, hc⟩ := hks.resolve_left (by intro h; rw [h] at hlt; simp at hlt)
        obtain ⟨dv', kv', c0, c1, c2, c3, ht'⟩ := hc j hlt
        rw [← hst.below.cell (p := ⟨g, _, none⟩) hg] at c0 c1 c2 c3
        obtain ⟨ad', cd', ak', ck', rfl, rfl, _, _, _, _⟩ := ht'.form
        have hkd : ∃ kt, t.kids[j] = kt := ⟨_, rfl⟩
        obtain ⟨kt, hkt⟩ := hkd
        rw [hkt] at c0 c1 c2 c3 ht'
        have HKT := Lib.hid hkt
        have HST := Lib.hid hst
        have HT' := Lib.hid ht'
        have HCc := Lib.hid hc
        have hks' : kt.size ≤ k := by
          have h1 := Tr.sizes_at j hlt
          rw [hkt] at h1
          obtain ⟨n, b, d, ks⟩ := t
          rw [Tr.size] at hk
          simp only at h1
          omega
        have hsm' : kt.small := by
          have h1 := HS.out
          obtain ⟨n, b, d, ks⟩ := t
          rw [Tr.small] at h1
          have h2 := Tr.smalls_at h1.2.2 j hlt
          simp only at hkt
          rw [hkt] at h2
          exact h2
        have hwr := hst.below
        have HWR := Lib.hid hwr
        have hout := hst.out
        have hz : ∀ A, Below w.heap.size w (wr.alloc A) := fun A => below_al hwr A
        have HZ := Lib.hid hz
        have hOlt1 : O < wr.heap.size + 1 := by omega
        have hKids := Lib.hid hst.kids
        have hOk := Lib.hid hst.kO
        obtain ⟨i0, hi, hz0, hz1, hz2⟩ := info_parts info_tree
        have hjs : j ≤ 1000000 := by
          have h1 := HS.out
          obtain ⟨n, b, d, ks⟩ := t
          rw [Tr.small] at h1
          simp only at hlt
          omega
        have HOUT := Lib.hid hout
        have hO1 := hst.O1
        have hc1 : j + 1 ≤ maxLen := by unfold maxLen; omega
        have hc2 : (j + 1) * 64 ≤ 140737488355328 := by omega
        have hone : ∀ (ad2 ak2 : Option Addr) (cd2 ck2 : Nat), ∀ u ∈ [Value.int .u64 (kt.num : Int), .bool kt.blank, .slice ad2 kt.data.length cd2, .slice ak2 kt.kids.length ck2], u.oneCell' = true := by
          intro ad2 ak2 cd2 ck2 u hu
          simp only [List.mem_cons, List.not_mem_nil, or_false] at hu
          rcases hu with rfl | rfl | rfl | rfl <;> rfl
        clear hkt hst ht' hc hks hkf hz hwr hout
        go_wp2_with fail
        go_region_law (first
            | (refine step_append_lies _ (by rfl) _ _ 24 (by rfl) (w.heap.size + 2) 26 i0 (.agg #[.int .u64 0, .bool false, .slice none 0 0, .slice none 0 0]) 4 64 Try.underlying24 hi hz0 hz1 hz2 rfl (by decide) (.slice ka j kc) j kxs (by rfl) (hown3 _) ⟨w2.heap.size, 0, none⟩ 1 1 [.int .u64 (kt.num : Int), .bool kt.blank, .slice ad2 kt.data.length cd2, .slice ak2 kt.kids.length ck2] (by rfl) rfl (World.news_of_block (heap_new w2 _)) (hone _ _ _ _) (by omega) hc1 hc2 (hc3 _) (w2.heap.size + 1) (size_al _ _) ?_
               intro g4 cap4 w4 hown4 hgrow hat hlt4
               have hO4 : w4.heap[O]? = some (.cells #[.int .u64 (t.num : Int), .bool t.blank, dv, .slice ka j kc] 26 (0, 0)) := (hgrow.block O (by rw [size_al]; omega) (fun e => hOk.out e.symm)).trans ((heap_old _ (by omega)).trans ((hb2'.block O hOlt).trans HOUT.out))
               have cell4 : w4.cell? ⟨O, 3, none⟩ = some (.slice ka j kc) := cell_any hO4
               have free4 : w4.frozen? ⟨O, 3, none⟩ = false := free_of_heap hO4
               clear hO4)
            | (go_simp
               go_at_call 14
               refine (IH.out kt _ _ _ hks' hsm' ((HT'.out.up HWR.out).up ((below_al (Below.refl _ _) _).drew))).mono ?_
               rintro e w2 ⟨dv2, kv2, kxs2, rfl, hown2, hb2⟩
               obtain ⟨ad2, cd2, rfl⟩ := owned_form hown2.data
               obtain ⟨ak2, ck2, rfl⟩ := owned_form hown2.kids
               have hb2' : Below wr.heap.size wr w2 := below_tr ((below_al (Below.refl _ _) _).drew) hb2
               have hw2 := hb2'.size
               have hown3 : ∀ o, (w2.alloc o).ownsRow (w.heap.size + 2) 26 4 (.slice ka j kc) j kxs := fun o => owned_kept hKids.out (Nat.le_refl _) (fun g hg => (heap_old o (Nat.lt_of_lt_of_le (owned_lt hKids.out g hg).2 hw2)).trans (hb2'.block g (owned_lt hKids.out g hg).2))
               have hc3 : ∀ o, w.heap.size + 2 ≤ (w2.alloc o).heap.size := fun o => by rw [size_al]; omega
               have cell2 : w2.cell? ⟨O, 3, none⟩ = some (.slice ka j kc) := (hb2'.cell (p := ⟨O, 3, none⟩) hOlt).trans hO
               have cell3 : ∀ o, (w2.alloc o).cell? ⟨O, 3, none⟩ = some (.slice ka j kc) := fun o => cell_alloc' (Nat.lt_of_lt_of_le hOlt hw2) cell2))
        all_goals
          go_wp2_with fail
          refine ⟨⟨j + 1, _, _, hlt, rfl, CloneSt.next HST.out hlt HKT.out _ (by show wr.heap.size ≤ (wr.alloc _).heap.size; rw [size_al]; omega) hb2' hown2 (below_al (Below.refl _ _) _) hgrow hown4 ?_⟩, by simp [intOf]; omega⟩
          rcases hat with h | h
          · exact .inl h.symm
          · right; rw [h, size_al]; rfl
      · have hjl : j = t.kids.length := by omega
        have hO0 := cell_of_heap (j := 0) hst.out
        have hO1 := cell_of_heap (j := 1) hst.out
        have hO2 := cell_of_heap (j := 2) hst.out
        have hR := fun j => cell_of_heap (j := j) hst.res
        have hRf := fun j => free_of_heap (j := j) hst.res
        obtain ⟨da, dc, rfl⟩ := owned_form hst.data
        simp only [List.getElem?_toArray, List.getElem?_cons_succ, List.getElem?_cons_zero] at hO0 hO1 hO2
        have hR0 := hR 0
        have hR1 := hR 1
        have hR2 := hR 2
        have hR3 := hR 3
        simp only [List.getElem?_toArray, List.getElem?_cons_succ, List.getElem?_cons_zero] at hR0 hR1 hR2 hR3
        have HST := Lib.hid hst
        have HJ := Lib.hid hjl
        clear hst hjl hkf hks hR
        go_wp2_with fail
        refine bodyPost_ret (v := .agg #[.int .u64 (t.num : Int), .bool t.blank, .slice da t.data.length dc, .slice ka j kc]) (by simp [results, Try.results14, go_sem, hR0, hR1, hR2, hR3]) rfl ?_
        obtain ⟨f1, f2⟩ := HST.out.finish HJ.out (.int .u64 (t.num : Int)) (.bool t.blank) (.slice da t.data.length dc) (.slice ka j kc)
        exact ⟨_, _, _, rfl, f1, f2⟩
theorem clone_said : ∀ k, CloneSaid k
  | 0 => fun t _ _ _ h => by have := t.size_pos; omega
  | k + 1 => clone_step k (clone_said k)
end Go.Proofs.Ytdogiobppeemiaa
