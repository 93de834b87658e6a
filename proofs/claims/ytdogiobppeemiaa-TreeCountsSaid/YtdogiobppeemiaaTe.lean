/- tree.Put: the walk. -/
import Derived.Test.YtdogiobppeemiaaTd
namespace Go.Proofs.Ytdogiobppeemiaa
set_option linter.unusedSimpArgs false
set_option linter.unusedVariables false
set_option linter.unnecessarySimpa false
open Go.RowKit
attribute [local go_sem ↓] Go.wp_at_zero Go.wp_at_succ

/-- A tree with another part at a place. -/
def Tr.setKid (t : Tr) (n : Nat) (k : Tr) : Tr := .node t.num t.blank t.data (t.kids.set n k)
/-- A tree in which a part stands on a way. -/
def Tr.put : Tr → Tr → List Int → Option Tr
  | _, p, [] => some p
  | t, p, i :: r => if h : 0 ≤ i ∧ i < (t.kids.length : Int) then (match Tr.put (t.kids[i.toNat]'(by omega)) p r with | some k => some (t.setKid i.toNat k) | none => none) else none
theorem Tr.put_in {t p : Tr} {n : Nat} {r : List Int} (h : n < t.kids.length) : t.put p ((n : Int) :: r) = (match (t.kids[n]).put p r with | some k => some (t.setKid n k) | none => none) := by
  rw [Tr.put, dif_pos (by omega)]; rfl
theorem Tr.put_out {t p : Tr} {i : Int} {r : List Int} (h : ¬ (0 ≤ i ∧ i < (t.kids.length : Int))) : t.put p (i :: r) = none := by
  rw [Tr.put, dif_neg h]

/-- tree.Put's post. -/
def PutPost (t p : Tr) (way : List Int) (w : World) (e : Ending) (w' : World) : Prop :=
  Below w.heap.size w w' ∧
  ((∃ u dv kv, t.put p way = some u ∧ TrAt (fun b => w.heap.size ≤ b ∧ b < w'.heap.size) w' u dv kv ∧ e = .returned (.tuple #[.agg #[.int .u64 (u.num : Int), .bool u.blank, dv, kv], .bool true])) ∨
   (t.put p way = none ∧ e = .returned (.tuple #[.agg #[.int .u64 0, .bool false, .slice none 0 0, .slice none 0 0], .bool false])))
def PutSaid (m : Nat) : Prop := ∀ (t p : Tr) (dv kv dp kp : Value) (a : Option Addr) (len cap : Nat) (way : List Int) (w : World), way.length ≤ m → t.small → p.small → t.size ≤ 1000000 → p.size ≤ 1000000 →
    TrAt (· < w.heap.size) w t dv kv → TrAt (· < w.heap.size) w p dp kp → way.length = len → len ≤ cap → cap ≤ maxLen → Elems .i64 w a way → (∀ n ∈ way, (Lit.int .i64 n).wf = true) →
    Calls Try.prog 16 #[.agg #[.int .u64 (t.num : Int), .bool t.blank, dv, kv], .agg #[.int .u64 (p.num : Int), .bool p.blank, dp, kp], .slice a len cap] w (PutPost t p way w)

/-- Four stores in a row, from a place on. -/
def set4at (w : World) (b o : Nat) (d0 d1 d2 d3 : Value) : World := (((w.setCell ⟨b, o, none⟩ d0).setCell ⟨b, o + 1, none⟩ d1).setCell ⟨b, o + 2, none⟩ d2).setCell ⟨b, o + 3, none⟩ d3
theorem heap_set4at_ne {w : World} {b o k : Nat} (d0 d1 d2 d3 : Value) (h : k ≠ b) : (set4at w b o d0 d1 d2 d3).heap[k]? = w.heap[k]? := by
  unfold set4at; rw [heap_setCell_ne h, heap_setCell_ne h, heap_setCell_ne h, heap_setCell_ne h]
theorem size_set4at {w : World} {b o : Nat} (d0 d1 d2 d3 : Value) : (set4at w b o d0 d1 d2 d3).heap.size = w.heap.size := by simp [set4at, World.setCell]
theorem below_set4at {w w' : World} (h : Below w.heap.size w w') {b o : Nat} (hb : w.heap.size ≤ b) (d0 d1 d2 d3 : Value) : Below w.heap.size w (set4at w' b o d0 d1 d2 d3) :=
  below_set (below_set (below_set (below_set h hb _) hb _) hb _) hb _
theorem cell_set4at_ne {w : World} {b o j : Nat} (d0 d1 d2 d3 : Value) (h : j < o ∨ o + 4 ≤ j) : (set4at w b o d0 d1 d2 d3).cell? ⟨b, j, none⟩ = w.cell? ⟨b, j, none⟩ := by
  unfold set4at
  rw [World.cell?_setCell_other _ _ _ _ (by simp <;> omega), World.cell?_setCell_other _ _ _ _ (by simp <;> omega), World.cell?_setCell_other _ _ _ _ (by simp <;> omega), World.cell?_setCell_other _ _ _ _ (by simp <;> omega)]
theorem cell_set4at {w : World} {b o : Nat} (d0 d1 d2 d3 : Value) (h : ∀ i, i < 4 → ∃ v, w.cell? ⟨b, o + i, none⟩ = some v) (i : Nat) (hi : i < 4) : (set4at w b o d0 d1 d2 d3).cell? ⟨b, o + i, none⟩ = ([d0, d1, d2, d3] : List Value)[i]? := by
  have hs : ∀ (W : World) (o' : Nat) (v : Value), (∃ u, W.cell? ⟨b, o', none⟩ = some u) → ∀ (o2 : Nat), (∃ u, W.cell? ⟨b, o2, none⟩ = some u) → ∃ u, (W.setCell ⟨b, o2, none⟩ v).cell? ⟨b, o', none⟩ = some u := by
    intro W o' v ⟨u, hu⟩ o2 _
    exact cell?_setCell_some hu
  obtain ⟨v0, h0⟩ := h 0 (by omega)
  obtain ⟨v1, h1⟩ := h 1 (by omega)
  obtain ⟨v2, h2⟩ := h 2 (by omega)
  obtain ⟨v3, h3⟩ := h 3 (by omega)
  unfold set4at
  match i, hi with
  | 0, _ =>
    rw [World.cell?_setCell_other _ _ _ _ (by simp), World.cell?_setCell_other _ _ _ _ (by simp), World.cell?_setCell_other _ _ _ _ (by simp)]
    exact World.cell?_setCell_same _ _ _ h0
  | 1, _ =>
    rw [World.cell?_setCell_other _ _ _ _ (by simp), World.cell?_setCell_other _ _ _ _ (by simp)]
    refine World.cell?_setCell_same _ _ _ (u := v1) ?_
    rw [World.cell?_setCell_other _ _ _ _ (by simp)]; exact h1
  | 2, _ =>
    rw [World.cell?_setCell_other _ _ _ _ (by simp)]
    refine World.cell?_setCell_same _ _ _ (u := v2) ?_
    rw [World.cell?_setCell_other _ _ _ _ (by simp), World.cell?_setCell_other _ _ _ _ (by simp)]; exact h2
  | 3, _ =>
    refine World.cell?_setCell_same _ _ _ (u := v3) ?_
    rw [World.cell?_setCell_other _ _ _ _ (by simp), World.cell?_setCell_other _ _ _ _ (by simp), World.cell?_setCell_other _ _ _ _ (by simp)]; exact h3

/-- A copy's row of parts: its block, and that all its cells are there. -/
theorem Owned.row {B : Nat} {t : Tr} {dv kv : Value} {kxs : List Value} {w : World} (h : Owned B t dv kv kxs w) (hne : 0 < t.kids.length) :
    ∃ g cap, kv = .slice (some ⟨g, 0, none⟩) t.kids.length cap ∧ B ≤ g ∧ g < w.heap.size ∧ t.kids.length ≤ cap ∧ cap ≤ maxLen ∧ (∀ j, w.frozen? ⟨g, j, none⟩ = false) ∧ ∀ i, i < t.kids.length * 4 → ∃ v, w.cell? ⟨g, i, none⟩ = some v ∧ kxs[i]? = some v := by
  obtain ⟨h1, h2⟩ := h.kids
  rcases h2 with ⟨_, e⟩ | ⟨g, cap, cur, rfl, e1, e2, e3, e4, e5, e6⟩
  · omega
  · refine ⟨g, cap, rfl, e1, (owned_lt h.kids g rfl).2, e3, e4, fun j => free_of_heap e2, fun i hi => ?_⟩
    have hc : i < cur.size := by rw [e5]; have := Nat.mul_le_mul_right 4 e3; omega
    refine ⟨cur[i], by rw [cell_of_heap e2]; simp [hc], ?_⟩
    rw [← e6, List.getElem?_take_of_lt hi]; simp [hc]
/-- .. and what it is with another part stored at a place. -/
theorem Owned.stored {B B0 : Nat} {t k : Tr} {dv kv dk kk : Value} {kxs : List Value} {w : World} {n g cap : Nat} (h : Owned B t dv kv kxs w) (hn : n < t.kids.length) (hg : kv = .slice (some ⟨g, 0, none⟩) t.kids.length cap)
    (hk : TrAt (fun b => B0 ≤ b ∧ b < B) w k dk kk) (hB0 : B0 ≤ B) :
    TrAt (fun b => B0 ≤ b ∧ b < w.heap.size) (set4at w g (n * 4) (.int .u64 (k.num : Int)) (.bool k.blank) dk kk) (t.setKid n k) dv kv := by
  obtain ⟨g', cap', e, hB, hgl, hc1, hc2, _, hrow⟩ := h.row (by omega)
  rw [hg] at e
  simp only [Value.slice.injEq, Option.some.injEq, Addr.mk.injEq, and_true, true_and] at e
  obtain ⟨rfl, rfl⟩ := e
  have hgk : kv.ownBlock = some g := by rw [hg]; rfl
  constructor
  · exact C.rep_mono (fun _ h => h) (fun b hb => rfl) _ _ (C.rep_of_owned (ok := fun b => B0 ≤ b ∧ b < w.heap.size) (owned_kept h.data (Nat.le_refl _) (fun g' hg' => heap_set4at_ne _ _ _ _ (fun e => h.apart g' hg' (by rw [hgk, e])))) (bytes_reps _ _ _) (fun g' hg' => ⟨Nat.le_trans hB0 (owned_lt h.data g' hg').1, (owned_lt h.data g' hg').2⟩))
  · have hlen : (Tr.cs (t.setKid n k).kids).length = t.kids.length * 4 := by rw [Tr.cs_length]; simp [Tr.setKid]
    rw [C.rep, hg]
    refine ⟨_, _, _, rfl, hlen, hc1, hc2, fun h => by simp at h, C.row_of (ok := fun b => B0 ≤ b ∧ b < w.heap.size) ⟨Nat.le_trans hB0 hB, hgl⟩ fun i hi => ?_⟩
    rw [hlen] at hi
    have hj : i / 4 < t.kids.length := by omega
    have hi4 : i % 4 < 4 := by omega
    have hii : i / 4 * 4 + i % 4 = i := by omega
    have hcs := Tr.cs_at (t.setKid n k).kids (i / 4) (i % 4) (by simpa [Tr.setKid] using hj) hi4
    rw [hii] at hcs
    have hget : ((t.setKid n k).kids)[i / 4]'(by simpa [Tr.setKid] using hj) = if n = i / 4 then k else t.kids[i / 4] := by simp [Tr.setKid, List.getElem_set]
    rw [hget] at hcs
    rw [List.getElem?_eq_getElem (by rw [hlen]; exact hi)] at hcs
    by_cases hni : n = i / 4
    · rw [if_pos hni, List.getElem?_eq_getElem (by rw [Tr.c_length]; exact hi4)] at hcs
      have hcell := cell_set4at (w := w) (b := g) (o := n * 4) (.int .u64 (k.num : Int)) (.bool k.blank) dk kk (fun i' hi' => by obtain ⟨v, hv, _⟩ := hrow (n * 4 + i') (by omega); exact ⟨v, hv⟩) (i % 4) hi4
      have hri := hk.reps
      have hl4 : ([.int .u64 (k.num : Int), .bool k.blank, dk, kk] : List Value).length = 4 := rfl
      rw [List.getElem?_eq_getElem (by rw [hl4]; exact hi4)] at hcell
      refine ⟨_, by rw [show 0 + (0 + i) = n * 4 + i % 4 from by omega]; exact hcell, ?_⟩
      rw [Option.some.inj hcs]
      exact C.rep_mono (fun b hb => ⟨hb.1, by have := hb.2; omega⟩) (fun b hb => heap_set4at_ne _ _ _ _ (by have := hb.2; omega)) _ _ (C.reps_at hri (i % 4) (by rw [Tr.c_length]; exact hi4) (by rw [hl4]; exact hi4))
    · rw [if_neg hni, List.getElem?_eq_getElem (by rw [Tr.c_length]; exact hi4)] at hcs
      obtain ⟨v, hv, hx⟩ := hrow i (by omega)
      refine ⟨v, by rw [show 0 + (0 + i) = i from by omega, cell_set4at_ne _ _ _ _ (by omega)]; exact hv, ?_⟩
      rw [Option.some.inj hcs]
      have hcs2 := Tr.cs_at t.kids (i / 4) (i % 4) hj hi4
      rw [hii, List.getElem?_eq_getElem (by rw [Tr.cs_length]; omega), List.getElem?_eq_getElem (by rw [Tr.c_length]; exact hi4)] at hcs2
      rw [← Option.some.inj hcs2]
      obtain ⟨hxl, hxe⟩ := List.getElem?_eq_some_iff.1 hx
      have := C.reps_at h.parts i (by rw [Tr.cs_length]; omega) hxl
      rw [hxe] at this
      exact C.rep_mono (fun b hb => ⟨Nat.le_trans hB0 hb.1, hb.2.1⟩) (fun b hb => heap_set4at_ne _ _ _ _ (fun e => hb.2.2.2 (by rw [hgk, e]))) _ _ this

theorem Elems.tail {w : World} {a : Option Addr} {x : Int} {r : List Int} (h : Elems .i64 w a (x :: r)) : ∃ g off, a = some ⟨g, off, none⟩ ∧ g < w.heap.size ∧ w.cell? ⟨g, off, none⟩ = some (.int .i64 x) ∧ Elems .i64 w (some ⟨g, off + 1, none⟩) r := by
  rcases h with h | ⟨g, off, e, hg, hc⟩
  · simp at h
  · refine ⟨g, off, e, hg, hc 0 (by simp), .inr ⟨g, off + 1, rfl, hg, fun j hj => ?_⟩⟩
    have := hc (j + 1) (by simpa using hj)
    rw [show off + 1 + j = off + (j + 1) from by omega]
    simpa using this

/-- A copy, with four stores into an older block behind it. -/
theorem Owned.after {B b : Nat} {t : Tr} {dv kv : Value} {kxs : List Value} {w : World} (h : Owned B t dv kv kxs w) (hb : b < B) (d0 d1 d2 d3 : Value) : TrAt (fun b' => B ≤ b' ∧ b' < (set4 w b d0 d1 d2 d3).heap.size) (set4 w b d0 d1 d2 d3) t dv kv :=
  h.tree.mono (fun b hb => by rw [size_set4]; exact hb) (fun b' hb' => heap_set4_ne _ _ _ _ (by have : B ≤ b' := hb'.1; omega))
/-- What the recursive call gives, in two. -/
theorem put_two {m : Nat} (ih : PutSaid m) (t p : Tr) (dv kv dp kp : Value) (a : Option Addr) (len cap : Nat) (way : List Int) (w : World) (h1 : way.length ≤ m) (h2 : t.small) (h3 : p.small) (h4 : t.size ≤ 1000000) (h5 : p.size ≤ 1000000)
    (ht : TrAt (· < w.heap.size) w t dv kv) (hp : TrAt (· < w.heap.size) w p dp kp) (h6 : way.length = len) (h7 : len ≤ cap) (h8 : cap ≤ maxLen) (hE : Elems .i64 w a way) (hwf : ∀ n ∈ way, (Lit.int .i64 n).wf = true) :
    (t.put p way = none ∧ ∀ W, Below w.heap.size w W → Calls Try.prog 16 #[.agg #[.int .u64 (t.num : Int), .bool t.blank, dv, kv], .agg #[.int .u64 (p.num : Int), .bool p.blank, dp, kp], .slice a len cap] W fun e w' => e = .returned (.tuple #[.agg #[.int .u64 0, .bool false, .slice none 0 0, .slice none 0 0], .bool false]) ∧ Below W.heap.size W w') ∨
    (∃ u, t.put p way = some u ∧ ∀ W, Below w.heap.size w W → Calls Try.prog 16 #[.agg #[.int .u64 (t.num : Int), .bool t.blank, dv, kv], .agg #[.int .u64 (p.num : Int), .bool p.blank, dp, kp], .slice a len cap] W fun e w' => ∃ ad cd ak ck, e = .returned (.tuple #[.agg #[.int .u64 (u.num : Int), .bool u.blank, .slice ad u.data.length cd, .slice ak u.kids.length ck], .bool true]) ∧ TrAt (fun b => W.heap.size ≤ b ∧ b < w'.heap.size) w' u (.slice ad u.data.length cd) (.slice ak u.kids.length ck) ∧ Below W.heap.size W w') := by
  have key := fun W (hW : Below w.heap.size w W) => ih t p dv kv dp kp a len cap way W h1 h2 h3 h4 h5 (ht.up hW) (hp.up hW) h6 h7 h8 (hE.below hW) hwf
  cases hu : t.put p way with
  | none =>
    refine .inl ⟨rfl, fun W hW => (key W hW).mono ?_⟩
    rintro e w' ⟨hb, ⟨u, dv, kv, h, _⟩ | ⟨_, rfl⟩⟩
    · rw [hu] at h; simp at h
    · exact ⟨rfl, hb⟩
  | some u =>
    refine .inr ⟨u, rfl, fun W hW => (key W hW).mono ?_⟩
    rintro e w' ⟨hb, ⟨u', dv, kv, h, htr, rfl⟩ | ⟨h, _⟩⟩
    · rw [hu] at h
      simp only [Option.some.injEq] at h
      subst h
      obtain ⟨ad, cd, ak, ck, rfl, rfl, _, _, _, _⟩ := htr.form
      exact ⟨ad, cd, ak, ck, rfl, htr, hb⟩
    · rw [hu] at h; simp at h

/-- Put's state when the copy is made: the part that goes in, the copy, and the variables that hold them. -/
structure PutSt (w : World) (t u : Tr) (K Q Bx g cap : Nat) (dv ud uk : Value) (kxs : List Value) (wx : World) : Prop where
  below : Below w.heap.size w wx
  own : Owned Bx t dv (.slice (some ⟨g, 0, none⟩) t.kids.length cap) kxs wx
  ut : TrAt (fun b => w.heap.size + 3 ≤ b ∧ b < Bx) wx u ud uk
  hK : wx.heap[K]? = some (.cells #[.int .u64 (u.num : Int), .bool u.blank, ud, uk] 26 (0, 0))
  hQ : wx.heap[Q]? = some (.cells #[.int .u64 (t.num : Int), .bool t.blank, dv, .slice (some ⟨g, 0, none⟩) t.kids.length cap] 26 (0, 0))
  hR : wx.heap[w.heap.size + 2]? = some (.cells #[.int .u64 0, .bool false, .slice none 0 0, .slice none 0 0] 26 (0, 0))
  hB : w.heap.size + 3 ≤ Bx
  gQ : g ≠ Q
  dQ : dv.ownBlock ≠ some Q
  gB : Bx ≤ g
/-- .. and when the part is stored. -/
structure PutEnd (w : World) (t u : Tr) (n Q g cap : Nat) (dv : Value) (wx : World) : Prop where
  below : Below w.heap.size w wx
  tree : TrAt (fun b => w.heap.size ≤ b ∧ b < wx.heap.size ∧ b ≠ w.heap.size + 2) wx (t.setKid n u) dv (.slice (some ⟨g, 0, none⟩) t.kids.length cap)
  hQ : wx.heap[Q]? = some (.cells #[.int .u64 (t.num : Int), .bool t.blank, dv, .slice (some ⟨g, 0, none⟩) t.kids.length cap] 26 (0, 0))
  hR : wx.heap[w.heap.size + 2]? = some (.cells #[.int .u64 0, .bool false, .slice none 0 0, .slice none 0 0] 26 (0, 0))
theorem PutSt.store {w wx : World} {t u : Tr} {K Q Bx g cap n : Nat} {dv ud uk : Value} {kxs : List Value} (h : PutSt w t u K Q Bx g cap dv ud uk kxs wx) (hn : n < t.kids.length) :
    PutEnd w t u n Q g cap dv (set4at wx g (n * 4) (.int .u64 (u.num : Int)) (.bool u.blank) ud uk) := by
  have hB := h.hB
  have hg := h.gB
  refine ⟨below_set4at h.below (by omega) _ _ _ _, (h.own.stored hn rfl h.ut hB).mono (fun b hb => ⟨by omega, by rw [size_set4at]; exact hb.2, by omega⟩) (fun _ _ => rfl), (heap_set4at_ne _ _ _ _ (fun e => h.gQ e.symm)).trans h.hQ, (heap_set4at_ne _ _ _ _ (by omega)).trans h.hR⟩
theorem PutEnd.last {w wx : World} {t u : Tr} {n Q g cap : Nat} {dv : Value} (h : PutEnd w t u n Q g cap dv wx) (d0 d1 d2 d3 : Value) :
    Below w.heap.size w (set4 wx (w.heap.size + 1 + 1) d0 d1 d2 d3) ∧ TrAt (fun b => w.heap.size ≤ b ∧ b < (set4 wx (w.heap.size + 1 + 1) d0 d1 d2 d3).heap.size) (set4 wx (w.heap.size + 1 + 1) d0 d1 d2 d3) (t.setKid n u) dv (.slice (some ⟨g, 0, none⟩) t.kids.length cap) :=
  ⟨below_set4 h.below (by omega) _ _ _ _, h.tree.mono (fun b hb => ⟨hb.1, by rw [size_set4]; exact hb.2.1⟩) (fun b hb => heap_set4_ne _ _ _ _ hb.2.2)⟩
theorem TrAt.weaken {ok ok' : Nat → Prop} {w : World} {t : Tr} {dv kv : Value} (h : TrAt ok w t dv kv) (h1 : ∀ b, ok b → ok' b) : TrAt ok' w t dv kv := h.mono h1 (fun _ _ => rfl)

theorem put_blocks (w : World) (A P R : Obj) : Below w.heap.size w (((w.alloc A).alloc P).alloc R) ∧ (((w.alloc A).alloc P).alloc R).heap.size = w.heap.size + 3 ∧ (((w.alloc A).alloc P).alloc R).heap[w.heap.size]? = some A ∧ (((w.alloc A).alloc P).alloc R).heap[w.heap.size + 1]? = some P ∧ (((w.alloc A).alloc P).alloc R).heap[w.heap.size + 2]? = some R := by
  obtain ⟨h1, h2, h3, h4, h5⟩ := three_blocks w A P R
  exact ⟨below_al (below_al (below_al (Below.refl _ _) _) _) _, h2, h5, h3, h4⟩
end Go.Proofs.Ytdogiobppeemiaa
