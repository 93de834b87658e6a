/- The law TreeSame: what its two loops do to a copy, plain. -/
import Derived.Test.YtdogiobppeemiaaLb
namespace Go.Proofs.Ytdogiobppeemiaa
set_option linter.unusedSimpArgs false
set_option linter.unusedVariables false
open Go.RowKit

/-- The first j elements turned. -/
def mapTo {α : Type} (f : α → α) (l : List α) (j : Nat) : List α := (l.take j).map f ++ l.drop j
theorem mapTo_length {α : Type} (f : α → α) (l : List α) (j : Nat) : (mapTo f l j).length = l.length := by simp [mapTo]; omega
theorem mapTo_zero {α : Type} (f : α → α) (l : List α) : mapTo f l 0 = l := by simp [mapTo]
theorem mapTo_full {α : Type} (f : α → α) (l : List α) (j : Nat) (h : j = l.length) : mapTo f l j = l.map f := by subst h; simp [mapTo]
theorem mapTo_at {α : Type} (f : α → α) (l : List α) (j : Nat) (h : j < l.length) : (mapTo f l j)[j]? = some l[j] := by
  unfold mapTo
  rw [List.getElem?_append_right (by simp; omega)]
  simp [Nat.min_eq_left (Nat.le_of_lt h), h]
theorem mapTo_set {α : Type} (f : α → α) (l : List α) (j : Nat) (h : j < l.length) : (mapTo f l j).set j (f l[j]) = mapTo f l (j + 1) := by
  unfold mapTo
  rw [List.take_succ_eq_append_getElem h, List.map_append, List.set_append_right _ _ (by simp; omega)]
  have e : j - (List.map f (List.take j l)).length = 0 := by simp; omega
  rw [e, List.drop_eq_getElem_cons h]
  simp only [List.set_cons_zero, List.map_cons, List.map_nil, List.append_assoc, List.singleton_append]

def bump : Tr → Tr
  | .node n b d ks => .node ((n + 1) % 18446744073709551616) b d ks
theorem bump_ne (t : Tr) (h : t.nums) : bump t ≠ t := by
  obtain ⟨n, b, d, ks⟩ := t
  rw [Tr.nums] at h
  intro e
  simp only [bump, Tr.node.injEq] at e
  omega
theorem bump_ok (t : Tr) (h : t.ok) : (bump t).ok := by
  obtain ⟨n, b, d, ks⟩ := t
  rw [Tr.ok] at h
  rw [bump, Tr.ok]
  exact ⟨Nat.mod_lt _ (by omega), h.2⟩
theorem oks_bump : ∀ ks : List Tr, Tr.oks ks → Tr.oks (ks.map bump)
  | [], h => h
  | t :: r, h => by rw [Tr.oks] at h; rw [List.map_cons, Tr.oks]; exact ⟨bump_ok t h.1, oks_bump r h.2⟩
theorem map_ne {α : Type} (f : α → α) (l : List α) (hf : ∀ x ∈ l, f x ≠ x) (hl : l ≠ []) : l.map f ≠ l := by
  cases l with
  | nil => exact absurd rfl hl
  | cons x r => intro e; simp only [List.map_cons, List.cons.injEq] at e; exact hf x (by simp) e.1
theorem byte_ne (x : UInt8) : x + 1 ≠ x := by
  intro e
  have := congrArg UInt8.toNat e
  simp at this
  omega
theorem numss_mem : ∀ {ks : List Tr}, Tr.numss ks → ∀ x ∈ ks, x.nums
  | t :: r, h, x, hx => by
    rw [Tr.numss] at h
    rcases List.mem_cons.1 hx with rfl | hx
    · exact h.1
    · exact numss_mem h.2 x hx
/-- The copy as the loops leave it. -/
def spoilt : Tr → Tr
  | .node n b d ks => .node n b (d.map (· + 1)) (ks.map bump)
theorem spoilt_ok (t : Tr) (h : t.ok) : (spoilt t).ok := by
  obtain ⟨n, b, d, ks⟩ := t
  rw [Tr.ok] at h
  rw [spoilt, Tr.ok]
  exact ⟨h.1, by simpa using h.2.1, by simpa using h.2.2.1, oks_bump ks h.2.2.2⟩
theorem spoilt_ne (t : Tr) (h : t.ok) (hn : t.data.length + t.kids.length ≠ 0) : t ≠ spoilt t := by
  have hnum := Tr.ok_nums t h
  obtain ⟨n, b, d, ks⟩ := t
  rw [Tr.nums] at hnum
  intro e
  simp only [spoilt, Tr.node.injEq, true_and] at e
  simp only at hn
  by_cases hd : d = []
  · have hk : ks ≠ [] := by intro hk; subst hd hk; simp at hn
    exact map_ne bump ks (fun x hx => bump_ne x (numss_mem hnum.2 x hx)) hk e.2.symm
  · exact map_ne (· + 1) d (fun x _ => byte_ne x) hd e.1.symm

/-- A store into an owned row. -/
theorem ownsRow_put {w : World} {base : Nat} {e : TypeId} {k : Nat} {v : Value} {n : Nat} {xs : List Value} (h : w.ownsRow base e k v n xs) {g : Nat} (hg : v.ownBlock = some g) (i : Nat) (hi : i < xs.length) (u : Value) :
    (w.setCell ⟨g, i, none⟩ u).ownsRow base e k v n (xs.set i u) := by
  obtain ⟨h1, h2⟩ := h
  refine ⟨by simp [h1], ?_⟩
  rcases h2 with ⟨rfl, _⟩ | ⟨g', cap, cur, rfl, e1, e2, e3, e4, e5, e6⟩
  · simp [Value.ownBlock] at hg
  · simp only [Value.ownBlock, Option.some.injEq] at hg
    subst hg
    have hic : i < cur.size := by rw [← e6] at hi; simp at hi; omega
    refine .inr ⟨g', cap, cur.setIfInBounds i u, rfl, e1, ?_, e3, e4, by simp [e5], ?_⟩
    · simp [World.setCell, Array.getElem?_modify, e2]
    · rw [← e6]; simp [List.take_set]
theorem ownBlock_some {w : World} {base : Nat} {e : TypeId} {k : Nat} {v : Value} {n : Nat} {xs : List Value} (h : w.ownsRow base e k v n xs) (hn : 0 < n) : ∃ g cap, v = .slice (some ⟨g, 0, none⟩) n cap ∧ base ≤ g ∧ g < w.heap.size ∧ n ≤ cap ∧ cap ≤ maxLen ∧ (∀ j, w.frozen? ⟨g, j, none⟩ = false) ∧ ∀ i, i < n * k → w.cell? ⟨g, i, none⟩ = xs[i]? := by
  have hlt := owned_lt h
  obtain ⟨h1, h2⟩ := h
  rcases h2 with ⟨_, h0⟩ | ⟨g, cap, cur, rfl, e1, e2, e3, e4, e5, e6⟩
  · omega
  · refine ⟨g, cap, rfl, e1, (hlt g rfl).2, e3, e4, fun j => free_of_heap e2, fun i hi => ?_⟩
    have hc : i < cur.size := by rw [e5]; have := Nat.mul_le_mul_right k e3; omega
    rw [cell_of_heap e2, ← e6, List.getElem?_take_of_lt hi]; simp [hc]

theorem Owned.byte {B : Nat} {n : Nat} {b : Bool} {d : List UInt8} {ks : List Tr} {dv kv : Value} {kxs : List Value} {w : World} (h : Owned B (.node n b d ks) dv kv kxs w) {g : Nat} (hg : dv.ownBlock = some g) (j : Nat) (hj : j < d.length) (x : UInt8) :
    Owned B (.node n b (d.set j x) ks) dv kv kxs (w.setCell ⟨g, j, none⟩ (.int .u8 (x.toNat : Int))) := by
  have hsz : (w.setCell ⟨g, j, none⟩ (.int .u8 (x.toNat : Int))).heap.size = w.heap.size := by simp [World.setCell]
  refine ⟨?_, ?_, h.apart, ?_⟩
  · have h1 : w.ownsRow B 5 1 dv d.length (d.map byteV) := h.data
    have := ownsRow_put h1 hg j (by simpa using hj) (.int .u8 (x.toNat : Int))
    show (w.setCell ⟨g, j, none⟩ (.int .u8 (x.toNat : Int))).ownsRow B 5 1 dv (d.set j x).length ((d.set j x).map byteV)
    rw [List.length_set, List.map_set]
    exact this
  · exact owned_kept h.kids (Nat.le_refl _) (fun g' hg' => heap_setCell_ne (fun e => h.apart g hg (by rw [hg', e])))
  · exact C.reps_mono (fun b hb => ⟨hb.1, by rw [hsz]; exact hb.2.1, hb.2.2⟩) (fun b hb => heap_setCell_ne (fun e => hb.2.2.1 (by rw [hg, e]))) _ _ h.parts

theorem reps_bump {ok : Nat → Prop} {w : World} : ∀ (ks : List Tr) (j : Nat) (kxs : List Value) (hj : j < ks.length), C.reps ok w (Tr.cs ks) kxs → C.reps ok w (Tr.cs (ks.set j (bump ks[j]))) (kxs.set (j * 4) (.int .u64 ((bump ks[j]).num : Int)))
  | .node n b d kk :: r, 0, kxs, hj, h => by
    simp only [List.set_cons_zero, List.getElem_cons_zero, bump]
    rw [Tr.cs, Tr.c] at h
    rw [Tr.cs, Tr.c]
    match kxs, h with
    | v0 :: vs, h =>
      rw [Nat.zero_mul, List.set_cons_zero]
      exact ⟨by rw [C.rep], h.2⟩
  | .node n b d kk :: r, j + 1, kxs, hj, h => by
    simp only [List.set_cons_succ, List.getElem_cons_succ]
    rw [Tr.cs, Tr.c] at h
    rw [Tr.cs, Tr.c]
    match kxs, h with
    | v0 :: v1 :: v2 :: v3 :: vs, h =>
      have e : (j + 1) * 4 = j * 4 + 1 + 1 + 1 + 1 := by omega
      rw [e]
      simp only [List.set_cons_succ]
      exact ⟨h.1, h.2.1, h.2.2.1, h.2.2.2.1, reps_bump r j vs (by simpa using hj) h.2.2.2.2⟩
    | [], h => exact h.elim
    | [_], h => exact h.2.elim
    | [_, _], h => exact h.2.2.elim
    | [_, _, _], h => exact h.2.2.2.elim

theorem Owned.num {B : Nat} {n : Nat} {b : Bool} {d : List UInt8} {ks : List Tr} {dv kv : Value} {kxs : List Value} {w : World} (h : Owned B (.node n b d ks) dv kv kxs w) {g : Nat} (hg : kv.ownBlock = some g) (j : Nat) (hj : j < ks.length) :
    Owned B (.node n b d (ks.set j (bump ks[j]))) dv kv (kxs.set (j * 4) (.int .u64 ((bump ks[j]).num : Int))) (w.setCell ⟨g, j * 4, none⟩ (.int .u64 ((bump ks[j]).num : Int))) := by
  have hsz : (w.setCell ⟨g, j * 4, none⟩ (.int .u64 ((bump ks[j]).num : Int))).heap.size = w.heap.size := by simp [World.setCell]
  have h1 : w.ownsRow B 26 4 kv ks.length kxs := h.kids
  refine ⟨?_, ?_, h.apart, ?_⟩
  · exact owned_kept h.data (Nat.le_refl _) (fun g' hg' => heap_setCell_ne (fun e => h.apart g' hg' (by rw [hg, e])))
  · have := ownsRow_put h1 hg (j * 4) (by rw [h1.1]; omega) (.int .u64 ((bump ks[j]).num : Int))
    show World.ownsRow _ B 26 4 kv (ks.set j (bump ks[j])).length _
    rw [List.length_set]
    exact this
  · have h2 := reps_bump ks j kxs hj h.parts
    exact C.reps_mono (fun b hb => ⟨hb.1, by rw [hsz]; exact hb.2.1, hb.2.2⟩) (fun b hb => heap_setCell_ne (fun e => hb.2.2.2 (by rw [hg, e]))) _ _ h2
end Go.Proofs.Ytdogiobppeemiaa
