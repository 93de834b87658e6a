/- Data in memory, of no program: a value's cells as plain data, and where they lie. -/
import Derived.WalkKit
import Derived.Below
import Derived.Lib.Hide
import Derived.WalkSmall
import Derived.Laws.AppendOwn
namespace Go.Proofs.Ytdogiobppeemiaa
set_option linter.unusedSimpArgs false
set_option linter.unusedVariables false
set_option linter.unnecessarySimpa false
open Go.RowKit

/-- One cell of data: a plain value, or a slice of elements of k cells each, all cells in a row. -/
inductive C where
  | val (v : Value)
  | sl (k : Nat) (cs : List C)

mutual
/-- The value v is the cell c; what it leads to lies in blocks that 'ok' lets. -/
def C.rep (ok : Nat → Prop) (w : World) : C → Value → Prop
  | .val u, v => v = u
  | .sl k cs, v => ∃ a n cap, v = .slice a n cap ∧ cs.length = n * k ∧ n ≤ cap ∧ cap ≤ maxLen ∧ (a = none → cap = 0) ∧ C.row ok w cs a 0
/-- The cells cs lie in a row at a, from place j on. -/
def C.row (ok : Nat → Prop) (w : World) : List C → Option Addr → Nat → Prop
  | [], _, _ => True
  | c :: r, a, j => (∃ b off u, a = some ⟨b, off, none⟩ ∧ ok b ∧ w.cell? ⟨b, off + j, none⟩ = some u ∧ C.rep ok w c u) ∧ C.row ok w r a (j + 1)
end

/-- Values one by one. -/
def C.reps (ok : Nat → Prop) (w : World) : List C → List Value → Prop
  | [], [] => True
  | c :: cs, v :: vs => c.rep ok w v ∧ C.reps ok w cs vs
  | _, _ => False

mutual
theorem C.rep_mono {ok ok' : Nat → Prop} {w w' : World} (h1 : ∀ b, ok b → ok' b) (h2 : ∀ b, ok b → w'.heap[b]? = w.heap[b]?) :
    ∀ (c : C) (v : Value), c.rep ok w v → c.rep ok' w' v
  | .val _, v, h => by rw [C.rep] at h ⊢; exact h
  | .sl k cs, v, h => by
    rw [C.rep] at h ⊢
    obtain ⟨a, n, cap, e1, e2, e3, e4, e6, e5⟩ := h
    exact ⟨a, n, cap, e1, e2, e3, e4, e6, C.row_mono h1 h2 cs a 0 e5⟩
theorem C.row_mono {ok ok' : Nat → Prop} {w w' : World} (h1 : ∀ b, ok b → ok' b) (h2 : ∀ b, ok b → w'.heap[b]? = w.heap[b]?) :
    ∀ (cs : List C) (a : Option Addr) (j : Nat), C.row ok w cs a j → C.row ok' w' cs a j
  | [], _, _, _ => by rw [C.row]; trivial
  | c :: r, a, j, h => by
    rw [C.row] at h ⊢
    obtain ⟨⟨b, off, u, e1, e2, e3, e4⟩, h'⟩ := h
    exact ⟨⟨b, off, u, e1, h1 b e2, (World.cell?_of_block (a := ⟨b, off + j, none⟩) (h2 b e2)).trans e3, C.rep_mono h1 h2 c u e4⟩, C.row_mono h1 h2 r a (j + 1) h'⟩
end
theorem C.reps_mono {ok ok' : Nat → Prop} {w w' : World} (h1 : ∀ b, ok b → ok' b) (h2 : ∀ b, ok b → w'.heap[b]? = w.heap[b]?) :
    ∀ (cs : List C) (vs : List Value), C.reps ok w cs vs → C.reps ok' w' cs vs
  | [], [], _ => trivial
  | _ :: cs, _ :: vs, h => ⟨C.rep_mono h1 h2 _ _ h.1, C.reps_mono h1 h2 cs vs h.2⟩
  | [], _ :: _, h => h.elim
  | _ :: _, [], h => h.elim

/-- Old data stays as it is. -/
theorem C.rep_below {B : Nat} {w w' : World} {c : C} {v : Value} (h : c.rep (· < B) w v) (hb : Below B w w') : c.rep (· < B) w' v :=
  C.rep_mono (fun _ h => h) (fun b h => hb.block b h) c v h
theorem C.reps_below {B : Nat} {w w' : World} {cs : List C} {vs : List Value} (h : C.reps (· < B) w cs vs) (hb : Below B w w') : C.reps (· < B) w' cs vs :=
  C.reps_mono (fun _ h => h) (fun b h => hb.block b h) cs vs h
theorem C.row_below {B : Nat} {w w' : World} {cs : List C} {a : Option Addr} {j : Nat} (h : C.row (· < B) w cs a j) (hb : Below B w w') : C.row (· < B) w' cs a j :=
  C.row_mono (fun _ h => h) (fun b h => hb.block b h) cs a j h

theorem C.reps_length {ok : Nat → Prop} {w : World} : ∀ {cs : List C} {vs : List Value}, C.reps ok w cs vs → cs.length = vs.length
  | [], [], _ => rfl
  | _ :: cs, _ :: vs, h => by simp [C.reps_length h.2]
  | [], _ :: _, h => h.elim
  | _ :: _, [], h => h.elim
theorem C.reps_append {ok : Nat → Prop} {w : World} : ∀ {cs : List C} {vs : List Value} {ds : List C} {us : List Value}, C.reps ok w cs vs → C.reps ok w ds us → C.reps ok w (cs ++ ds) (vs ++ us)
  | [], [], _, _, _, h => h
  | _ :: _, _ :: _, _, _, h, h' => ⟨h.1, C.reps_append h.2 h'⟩
  | [], _ :: _, _, _, h, _ => h.elim
  | _ :: _, [], _, _, h, _ => h.elim
theorem C.reps_at {ok : Nat → Prop} {w : World} : ∀ {cs : List C} {vs : List Value}, C.reps ok w cs vs → ∀ j (h : j < cs.length) (h' : j < vs.length), cs[j].rep ok w vs[j]
  | c :: cs, v :: vs, h, 0, _, _ => h.1
  | c :: cs, v :: vs, h, j + 1, h1, h2 => C.reps_at h.2 j (by simpa using h1) (by simpa using h2)

/-- A row, cell by cell. -/
theorem C.row_at {ok : Nat → Prop} {w : World} : ∀ {cs : List C} {a : Option Addr} {j : Nat}, C.row ok w cs a j → ∀ i (h : i < cs.length), ∃ b off u, a = some ⟨b, off, none⟩ ∧ ok b ∧ w.cell? ⟨b, off + (j + i), none⟩ = some u ∧ cs[i].rep ok w u
  | c :: r, a, j, h, 0, _ => by rw [C.row] at h; simpa using h.1
  | c :: r, a, j, h, i + 1, hi => by
    rw [C.row] at h
    obtain ⟨b, off, u, e1, e2, e3, e4⟩ := C.row_at h.2 i (by simpa using hi)
    exact ⟨b, off, u, e1, e2, by rw [show j + (i + 1) = j + 1 + i from by omega]; exact e3, e4⟩
theorem C.row_of {ok : Nat → Prop} {w : World} {b off : Nat} (hok : ok b) : ∀ {cs : List C} {j : Nat}, (∀ i (h : i < cs.length), ∃ u, w.cell? ⟨b, off + (j + i), none⟩ = some u ∧ cs[i].rep ok w u) → C.row ok w cs (some ⟨b, off, none⟩) j
  | [], _, _ => by rw [C.row]; trivial
  | c :: r, j, h => by
    rw [C.row]
    obtain ⟨u, e1, e2⟩ := h 0 (by simp)
    refine ⟨⟨b, off, u, rfl, hok, by simpa using e1, e2⟩, C.row_of hok fun i hi => ?_⟩
    obtain ⟨u, e1, e2⟩ := h (i + 1) (by simpa using hi)
    exact ⟨u, by rw [show j + 1 + i = j + (i + 1) from by omega]; exact e1, e2⟩
/-- A row that isn't empty lies in one block, cells from its offset on. -/
theorem C.row_block {ok : Nat → Prop} {w : World} {cs : List C} {a : Option Addr} (h : C.row ok w cs a 0) (hne : cs ≠ []) :
    ∃ b off, a = some ⟨b, off, none⟩ ∧ ok b ∧ ∀ i (h : i < cs.length), ∃ u, w.cell? ⟨b, off + i, none⟩ = some u ∧ cs[i].rep ok w u := by
  have h0 : 0 < cs.length := List.length_pos_iff.2 hne
  obtain ⟨b, off, u, rfl, e2, _, _⟩ := C.row_at h 0 h0
  refine ⟨b, off, rfl, e2, fun i hi => ?_⟩
  obtain ⟨b', off', u', e1, _, e3, e4⟩ := C.row_at h i hi
  simp only [Option.some.injEq, Addr.mk.injEq, and_true] at e1
  obtain ⟨rfl, rfl⟩ := e1
  exact ⟨u', by simpa using e3, e4⟩

/-- A slice that the call owns is data: its cells, one by one. -/
theorem C.rep_of_owned {ok : Nat → Prop} {w : World} {base : Nat} {e : TypeId} {k : Nat} {v : Value} {n : Nat} {xs : List Value} {cs : List C}
    (h : w.ownsRow base e k v n xs) (hx : C.reps ok w cs xs) (hok : ∀ g, v.ownBlock = some g → ok g) : (C.sl k cs).rep ok w v := by
  have hl := C.reps_length hx
  obtain ⟨h1, h2⟩ := h
  rw [C.rep]
  rcases h2 with ⟨rfl, rfl⟩ | ⟨g, cap, cur, rfl, _, hg, hn, hc, hs, ht⟩
  · have : cs = [] := by rw [← List.length_eq_zero_iff, hl, h1]; simp
    subst this
    exact ⟨none, 0, 0, rfl, by simp, by omega, by unfold maxLen; omega, fun _ => rfl, by rw [C.row]; trivial⟩
  · refine ⟨_, n, cap, rfl, by rw [hl, h1], hn, hc, fun h => by simp at h, C.row_of (hok g rfl) fun i hi => ?_⟩
    have hi' : i < xs.length := by omega
    refine ⟨xs[i], ?_, C.reps_at hx i hi hi'⟩
    have hgt : xs[i] = cur.toList[i]'(by rw [← ht] at hi'; simp at hi'; simp; omega) := by
      have : xs[i]? = (cur.toList.take (n * k))[i]? := by rw [ht]
      rw [List.getElem?_take_of_lt (by omega)] at this
      rw [List.getElem?_eq_getElem hi'] at this
      exact List.getElem?_eq_some_iff.1 this.symm |>.2.symm
    simp only [World.cell?, hg]
    rw [hgt]
    have hi2 : i < cur.size := by rw [← ht] at hi'; simp at hi'; omega
    simp [hi2]

/-- The values of a row, one by one. -/
theorem C.row_vals {ok : Nat → Prop} {w : World} {b off : Nat} : ∀ {cs : List C}, (∀ i (h : i < cs.length), ∃ u, w.cell? ⟨b, off + i, none⟩ = some u ∧ cs[i].rep ok w u) →
    ∃ xs : List Value, C.reps ok w cs xs ∧ ∀ i u, xs[i]? = some u → w.cell? ⟨b, off + i, none⟩ = some u
  | [], _ => ⟨[], trivial, by simp⟩
  | c :: r, h => by
    have ht : ∀ i (hi : i < r.length), ∃ u, w.cell? ⟨b, off + 1 + i, none⟩ = some u ∧ r[i].rep ok w u := by
      intro i hi
      obtain ⟨u, e1, e2⟩ := h (i + 1) (by simpa using hi)
      exact ⟨u, by rw [show off + 1 + i = off + (i + 1) from by omega]; exact e1, by simpa using e2⟩
    obtain ⟨xs, h1, h2⟩ := C.row_vals ht
    obtain ⟨u, e1, e2⟩ := h 0 (by simp)
    refine ⟨u :: xs, ⟨by simpa using e2, h1⟩, fun i v hv => ?_⟩
    cases i with
    | zero => simp at hv; subst hv; simpa using e1
    | succ i => rw [show off + (i + 1) = off + 1 + i from by omega]; exact h2 i v (by simpa using hv)

/-- A cell that is one cell, as a value. -/
def C.one : C → Prop
  | .val v => v.oneCell' = true
  | .sl _ _ => True
theorem C.rep_one {ok : Nat → Prop} {w : World} {c : C} {v : Value} (h : c.rep ok w v) (h1 : c.one) : v.oneCell' = true := by
  cases c with
  | val u => rw [C.rep] at h; subst h; exact h1
  | sl k cs => rw [C.rep] at h; obtain ⟨a, n, cap, rfl, _⟩ := h; rfl
theorem C.reps_one {ok : Nat → Prop} {w : World} : ∀ {cs : List C} {vs : List Value}, C.reps ok w cs vs → (∀ c ∈ cs, c.one) → ∀ v ∈ vs, v.oneCell' = true
  | [], [], _, _ => by simp
  | c :: cs, v :: vs, h, h1 => by
    intro u hu
    rcases List.mem_cons.1 hu with rfl | hu
    · exact C.rep_one h.1 (h1 c (by simp))
    · exact C.reps_one h.2 (fun c hc => h1 c (by simp [hc])) u hu
  | [], _ :: _, h, _ => h.elim
  | _ :: _, [], h, _ => h.elim
theorem owned_form {w : World} {base : Nat} {e : TypeId} {k : Nat} {v : Value} {n : Nat} {xs : List Value} (h : w.ownsRow base e k v n xs) : ∃ a c, v = .slice a n c := by
  rcases h.2 with ⟨rfl, rfl⟩ | ⟨g, cap, cur, rfl, _⟩
  · exact ⟨none, 0, rfl⟩
  · exact ⟨_, _, rfl⟩
/-- A new block: what was there is as it was. -/
theorem below_al {w w' : World} (h : Below w.heap.size w w') (o : Obj) : Below w.heap.size w (w'.alloc o) := h.alloc h.size o
theorem below_tr {w w' w'' : World} (h : Below w.heap.size w w') (h' : Below w'.heap.size w' w'') : Below w.heap.size w w'' := h.trans (h'.mono h.size)
theorem below_set {w w' : World} (h : Below w.heap.size w w') {b o : Nat} (hb : w.heap.size ≤ b) (v : Value) : Below w.heap.size w (w'.setCell ⟨b, o, none⟩ v) := h.setCell hb v
/-- An owned row, in another world and from a lower base. -/
theorem owned_kept {w w' : World} {base base' : Nat} {e : TypeId} {k : Nat} {v : Value} {n : Nat} {xs : List Value} (h : w.ownsRow base e k v n xs) (hb : base' ≤ base) (hk : ∀ g, v.ownBlock = some g → w'.heap[g]? = w.heap[g]?) : w'.ownsRow base' e k v n xs := by
  obtain ⟨h1, h2⟩ := h
  refine ⟨h1, ?_⟩
  rcases h2 with h2 | ⟨g, cap, cur, rfl, e1, e2, e3, e4, e5, e6⟩
  · exact .inl h2
  · exact .inr ⟨g, cap, cur, rfl, by omega, by rw [hk g rfl]; exact e2, e3, e4, e5, e6⟩
theorem owned_lt {w : World} {base : Nat} {e : TypeId} {k : Nat} {v : Value} {n : Nat} {xs : List Value} (h : w.ownsRow base e k v n xs) (g : Nat) (hg : v.ownBlock = some g) : base ≤ g ∧ g < w.heap.size := h.lt g hg
theorem heap_setCell_ne {w : World} {b o k : Nat} {v : Value} (h : k ≠ b) : (w.setCell ⟨b, o, none⟩ v).heap[k]? = w.heap[k]? := Below.heap_setCell w ⟨b, o, none⟩ v k h
/-- Four stores into a block that is known whole. -/
def set4 (w : World) (b : Nat) (d0 d1 d2 d3 : Value) : World := (((w.setCell ⟨b, 0, none⟩ d0).setCell ⟨b, 1, none⟩ d1).setCell ⟨b, 2, none⟩ d2).setCell ⟨b, 3, none⟩ d3
theorem heap_set4 {w : World} {b : Nat} {c0 c1 c2 c3 : Value} (d0 d1 d2 d3 : Value) {T : TypeId} {fr : Nat × Nat} (h : w.heap[b]? = some (.cells #[c0, c1, c2, c3] T fr)) : (set4 w b d0 d1 d2 d3).heap[b]? = some (.cells #[d0, d1, d2, d3] T fr) := by
  simp [set4, World.setCell, Array.getElem?_modify, h]
theorem heap_set4_ne {w : World} {b k : Nat} (d0 d1 d2 d3 : Value) (h : k ≠ b) : (set4 w b d0 d1 d2 d3).heap[k]? = w.heap[k]? := by
  unfold set4; rw [heap_setCell_ne h, heap_setCell_ne h, heap_setCell_ne h, heap_setCell_ne h]
theorem size_set4 {w : World} {b : Nat} (d0 d1 d2 d3 : Value) : (set4 w b d0 d1 d2 d3).heap.size = w.heap.size := by simp [set4, World.setCell]
theorem below_set4 {w w' : World} (h : Below w.heap.size w w') {b : Nat} (hb : w.heap.size ≤ b) (d0 d1 d2 d3 : Value) : Below w.heap.size w (set4 w' b d0 d1 d2 d3) :=
  below_set (below_set (below_set (below_set h hb _) hb _) hb _) hb _
theorem heap_new (w : World) (o : Obj) : (w.alloc o).heap[w.heap.size]? = some o := by show (w.heap.push o)[w.heap.size]? = _; simp
theorem heap_old {w : World} (o : Obj) {k : Nat} (h : k < w.heap.size) : (w.alloc o).heap[k]? = w.heap[k]? := Below.heap_alloc w o k h
theorem size_al (w : World) (o : Obj) : (w.alloc o).heap.size = w.heap.size + 1 := by show (w.heap.push o).size = _; simp
theorem cell_of_heap {w : World} {b j : Nat} {c : Array Value} {T : TypeId} {fr : Nat × Nat} (h : w.heap[b]? = some (.cells c T fr)) : w.cell? ⟨b, j, none⟩ = c[j]? := by simp [World.cell?, h]
theorem free_of_heap {w : World} {b j : Nat} {c : Array Value} {T : TypeId} (h : w.heap[b]? = some (.cells c T (0, 0))) : w.frozen? ⟨b, j, none⟩ = false := by simp [World.frozen?, h]
/-- What a cell holds in a world, under a name that no walk opens: so a region's 'S' may say of a cell that it holds something, and stay true behind a store to it. -/
@[irreducible] def peek (w : World) (b j : Nat) : Value := (w.cell? ⟨b, j, none⟩).getD undef
theorem peek_eq {w : World} {b j : Nat} {v : Value} (h : w.cell? ⟨b, j, none⟩ = some v) : peek w b j = v := by unfold peek; rw [h]; rfl
theorem peek_cell {w : World} {b j : Nat} {v : Value} (h : w.cell? ⟨b, j, none⟩ = some v) : w.cell? ⟨b, j, none⟩ = some (peek w b j) := by rw [peek_eq h]; exact h
end Go.Proofs.Ytdogiobppeemiaa
