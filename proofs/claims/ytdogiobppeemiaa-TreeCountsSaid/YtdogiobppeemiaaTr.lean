/- Trees, plain: and as cells. -/
import Derived.Test.YtdogiobppeemiaaRep
namespace Go.Proofs.Ytdogiobppeemiaa
set_option linter.unusedSimpArgs false
set_option linter.unusedVariables false
set_option linter.unnecessarySimpa false
open Go.RowKit

/-- A tree: a number, is it blank, bytes, parts. -/
structure Tr where
  node ::
  num : Nat
  blank : Bool
  data : List UInt8
  kids : List Tr
instance : Inhabited Tr := ⟨.node 0 false [] []⟩

def byteC (x : UInt8) : C := .val (.int .u8 (x.toNat : Int))
mutual
def Tr.c : Tr → List C
  | .node n b d ks => [.val (.int .u64 (n : Int)), .val (.bool b), .sl 1 (d.map byteC), .sl 4 (Tr.cs ks)]
def Tr.cs : List Tr → List C
  | [] => []
  | t :: r => Tr.c t ++ Tr.cs r
end
theorem Tr.c_length (t : Tr) : t.c.length = 4 := by cases t; simp [Tr.c]
theorem Tr.cs_length : ∀ ks : List Tr, (Tr.cs ks).length = ks.length * 4
  | [] => rfl
  | t :: r => by rw [Tr.cs, List.length_append, Tr.c_length, Tr.cs_length r, List.length_cons]; omega
theorem Tr.cs_append : ∀ a b : List Tr, Tr.cs (a ++ b) = Tr.cs a ++ Tr.cs b
  | [], _ => by simp [Tr.cs]
  | t :: r, b => by rw [List.cons_append, Tr.cs, Tr.cs, Tr.cs_append r b, List.append_assoc]
theorem Tr.cs_one (t : Tr) : Tr.cs [t] = t.c := by simp [Tr.cs]
/-- The cells of the part at j. -/
theorem Tr.cs_at : ∀ (ks : List Tr) (j i : Nat) (hj : j < ks.length) (hi : i < 4), (Tr.cs ks)[j * 4 + i]? = (ks[j].c)[i]?
  | t :: r, 0, i, _, hi => by
    rw [Tr.cs, List.getElem?_append_left (by rw [Tr.c_length]; omega)]; simp
  | t :: r, j + 1, i, hj, hi => by
    rw [Tr.cs, List.getElem?_append_right (by rw [Tr.c_length]; omega), Tr.c_length]
    rw [show (j + 1) * 4 + i - 4 = j * 4 + i from by omega]
    rw [Tr.cs_at r j i (by simpa using hj) hi]
    simp

mutual
/-- How many parts, it too. -/
def Tr.size : Tr → Nat
  | .node _ _ _ ks => 1 + Tr.sizes ks
def Tr.sizes : List Tr → Nat
  | [] => 0
  | t :: r => t.size + Tr.sizes r
end
mutual
/-- How deep. -/
def Tr.deep : Tr → Nat
  | .node _ _ _ ks => Tr.deeps ks + 1
def Tr.deeps : List Tr → Nat
  | [] => 0
  | t :: r => max t.deep (Tr.deeps r)
end
mutual
def Tr.ok : Tr → Prop
  | .node n _ d ks => n < 18446744073709551616 ∧ d.length ≤ maxLen ∧ ks.length ≤ maxLen ∧ Tr.oks ks
def Tr.oks : List Tr → Prop
  | [] => True
  | t :: r => t.ok ∧ Tr.oks r
end
theorem Tr.oks_at : ∀ {ks : List Tr}, Tr.oks ks → ∀ j (h : j < ks.length), ks[j].ok
  | _ :: _, h, 0, _ => h.1
  | _ :: _, h, j + 1, hj => Tr.oks_at h.2 j (by simpa using hj)
theorem Tr.sizes_at : ∀ {ks : List Tr} (j : Nat) (h : j < ks.length), ks[j].size ≤ Tr.sizes ks
  | t :: r, 0, _ => by rw [Tr.sizes]; exact Nat.le_add_right _ _
  | t :: r, j + 1, hj => by rw [Tr.sizes]; exact Nat.le_trans (Tr.sizes_at j (by simpa using hj)) (Nat.le_add_left _ _)

/-- A tree's four cells. -/
structure TrAt (ok : Nat → Prop) (w : World) (t : Tr) (dv kv : Value) : Prop where
  data : (C.sl 1 (t.data.map byteC)).rep ok w dv
  kids : (C.sl 4 (Tr.cs t.kids)).rep ok w kv
theorem TrAt.reps {ok : Nat → Prop} {w : World} {t : Tr} {dv kv : Value} (h : TrAt ok w t dv kv) : C.reps ok w t.c [.int .u64 (t.num : Int), .bool t.blank, dv, kv] := by
  cases t
  simp only [Tr.c, C.reps, C.rep, and_true, true_and]
  exact ⟨by have := h.data; rw [C.rep] at this; exact this, by have := h.kids; rw [C.rep] at this; exact this⟩
theorem TrAt.of_reps {ok : Nat → Prop} {w : World} {t : Tr} {vs : List Value} (h : C.reps ok w t.c vs) : ∃ dv kv, vs = [.int .u64 (t.num : Int), .bool t.blank, dv, kv] ∧ TrAt ok w t dv kv := by
  cases t with
  | node n b d ks =>
    match vs, h with
    | [v0, v1, v2, v3], h =>
      rw [Tr.c] at h
      obtain ⟨h0, h1, h2, h3, _⟩ := h
      rw [C.rep] at h0 h1
      subst h0; subst h1
      exact ⟨v2, v3, rfl, ⟨h2, h3⟩⟩
    | [], h => rw [Tr.c] at h; exact h.elim
    | [_], h => rw [Tr.c] at h; exact h.2.elim
    | [_, _], h => rw [Tr.c] at h; exact h.2.2.elim
    | [_, _, _], h => rw [Tr.c] at h; exact h.2.2.2.elim
    | _ :: _ :: _ :: _ :: _ :: _, h => rw [Tr.c] at h; exact h.2.2.2.2.elim
theorem TrAt.mono {ok ok' : Nat → Prop} {w w' : World} {t : Tr} {dv kv : Value} (h : TrAt ok w t dv kv) (h1 : ∀ b, ok b → ok' b) (h2 : ∀ b, ok b → w'.heap[b]? = w.heap[b]?) : TrAt ok' w' t dv kv :=
  ⟨C.rep_mono h1 h2 _ _ h.data, C.rep_mono h1 h2 _ _ h.kids⟩
theorem TrAt.below {B : Nat} {w w' : World} {t : Tr} {dv kv : Value} (h : TrAt (· < B) w t dv kv) (hb : Below B w w') : TrAt (· < B) w' t dv kv :=
  h.mono (fun _ h => h) (fun b h => hb.block b h)

/-- The part at j of a slice of trees: where its cells lie, and what they hold. -/
theorem kids_form {ok : Nat → Prop} {w : World} {ks : List Tr} {kv : Value} (h : (C.sl 4 (Tr.cs ks)).rep ok w kv) :
    ∃ a cap, kv = .slice a ks.length cap ∧ ks.length ≤ cap ∧ cap ≤ maxLen ∧ (a = none → cap = 0) ∧
      (ks = [] ∨ ∃ b off, a = some ⟨b, off, none⟩ ∧ ok b ∧ ∀ j (hj : j < ks.length), ∃ dv kv', w.cell? ⟨b, off + j * 4, none⟩ = some (.int .u64 (ks[j].num : Int)) ∧ w.cell? ⟨b, off + j * 4 + 1, none⟩ = some (.bool ks[j].blank) ∧
        w.cell? ⟨b, off + j * 4 + 2, none⟩ = some dv ∧ w.cell? ⟨b, off + j * 4 + 3, none⟩ = some kv' ∧ TrAt ok w ks[j] dv kv') := by
  rw [C.rep] at h
  obtain ⟨a, n, cap, rfl, h1, h2, h3, h5, h4⟩ := h
  have hn : n = ks.length := by rw [Tr.cs_length] at h1; omega
  subst hn
  refine ⟨a, cap, rfl, h2, h3, h5, ?_⟩
  by_cases hne : ks = []
  · exact .inl hne
  · right
    have hne' : Tr.cs ks ≠ [] := by
      intro h
      have := Tr.cs_length ks
      rw [h] at this
      have h0 : 0 < ks.length := List.length_pos_iff.2 hne
      rw [List.length_nil] at this
      omega
    obtain ⟨b, off, rfl, hok, hc⟩ := C.row_block h4 hne'
    refine ⟨b, off, rfl, hok, fun j hj => ?_⟩
    have key : ∀ i (hi : i < 4), ∃ u, w.cell? ⟨b, off + j * 4 + i, none⟩ = some u ∧ (ks[j].c[i]'(by rw [Tr.c_length]; exact hi)).rep ok w u := by
      intro i hi
      obtain ⟨u, e1, e2⟩ := hc (j * 4 + i) (by rw [Tr.cs_length]; omega)
      refine ⟨u, by rw [Nat.add_assoc]; exact e1, ?_⟩
      have := Tr.cs_at ks j i hj hi
      rw [List.getElem?_eq_getElem (by rw [Tr.cs_length]; omega), List.getElem?_eq_getElem (by rw [Tr.c_length]; exact hi)] at this
      rw [← Option.some.inj this]
      exact e2
    obtain ⟨u0, c0, r0⟩ := key 0 (by omega)
    obtain ⟨u1, c1, r1⟩ := key 1 (by omega)
    obtain ⟨u2, c2, r2⟩ := key 2 (by omega)
    obtain ⟨u3, c3, r3⟩ := key 3 (by omega)
    generalize ks[j] = t at *
    cases t with
    | node n b' d ks' =>
      simp only [Tr.c, List.getElem_cons_zero, List.getElem_cons_succ] at r0 r1 r2 r3
      rw [C.rep] at r0 r1
      subst r0; subst r1
      exact ⟨u2, u3, c0, c1, c2, c3, ⟨r2, r3⟩⟩
theorem data_form {ok : Nat → Prop} {w : World} {d : List UInt8} {dv : Value} (h : (C.sl 1 (d.map byteC)).rep ok w dv) :
    ∃ a cap, dv = .slice a d.length cap ∧ d.length ≤ cap ∧ cap ≤ maxLen ∧ (a = none → cap = 0) ∧
      (d = [] ∨ ∃ b off, a = some ⟨b, off, none⟩ ∧ ok b ∧ ∀ j (hj : j < d.length), w.cell? ⟨b, off + j, none⟩ = some (.int .u8 (d[j].toNat : Int))) := by
  rw [C.rep] at h
  obtain ⟨a, n, cap, rfl, h1, h2, h3, h5, h4⟩ := h
  have hn : n = d.length := by simp at h1; omega
  subst hn
  refine ⟨a, cap, rfl, h2, h3, h5, ?_⟩
  by_cases hne : d = []
  · exact .inl hne
  · right
    obtain ⟨b, off, rfl, hok, hc⟩ := C.row_block h4 (by simpa using hne)
    refine ⟨b, off, rfl, hok, fun j hj => ?_⟩
    obtain ⟨u, e1, e2⟩ := hc j (by simpa using hj)
    simp only [List.getElem_map, byteC, C.rep] at e2
    subst e2
    exact e1
/-- A tree's two slices, as values. -/
theorem TrAt.form {ok : Nat → Prop} {w : World} {t : Tr} {dv kv : Value} (h : TrAt ok w t dv kv) :
    ∃ ad cd ak ck, dv = .slice ad t.data.length cd ∧ kv = .slice ak t.kids.length ck ∧ t.data.length ≤ cd ∧ cd ≤ maxLen ∧ t.kids.length ≤ ck ∧ ck ≤ maxLen := by
  obtain ⟨ad, cd, e1, h1, h2, _, _⟩ := data_form h.data
  obtain ⟨ak, ck, e2, h3, h4, _, _⟩ := kids_form h.kids
  exact ⟨ad, cd, ak, ck, e1, e2, h1, h2, h3, h4⟩
theorem Tr.sizes_append : ∀ a b : List Tr, Tr.sizes (a ++ b) = Tr.sizes a + Tr.sizes b
  | [], _ => by simp [Tr.sizes]
  | t :: r, b => by rw [List.cons_append, Tr.sizes, Tr.sizes, Tr.sizes_append r b, Nat.add_assoc]
theorem Tr.sizes_take (ks : List Tr) (j : Nat) (h : j < ks.length) : Tr.sizes (ks.take (j + 1)) = Tr.sizes (ks.take j) + ks[j].size := by
  rw [List.take_succ_eq_append_getElem h, Tr.sizes_append]; simp [Tr.sizes]
theorem Tr.sizes_take_le (ks : List Tr) (j : Nat) : Tr.sizes (ks.take j) ≤ Tr.sizes ks := by
  have := Tr.sizes_append (ks.take j) (ks.drop j)
  rw [List.take_append_drop] at this
  omega
/-- What was there is there still, in a later world. -/
theorem TrAt.up {w w' : World} {t : Tr} {dv kv : Value} (h : TrAt (· < w.heap.size) w t dv kv) (hb : Below w.heap.size w w') : TrAt (· < w'.heap.size) w' t dv kv :=
  h.mono (fun _ h => Nat.lt_of_lt_of_le h hb.size) (fun b h => hb.block b h)
theorem Tr.size_pos (t : Tr) : 1 ≤ t.size := by cases t; rw [Tr.size]; omega
theorem Tr.c_one (t : Tr) : ∀ c ∈ t.c, c.one := by
  cases t
  intro c hc
  simp only [Tr.c, List.mem_cons, List.not_mem_nil, or_false] at hc
  rcases hc with rfl | rfl | rfl | rfl <;> simp [C.one, Value.oneCell']
theorem Tr.cs_one' : ∀ (ks : List Tr), ∀ c ∈ Tr.cs ks, c.one
  | [], c, h => by simp [Tr.cs] at h
  | t :: r, c, h => by
    rw [Tr.cs] at h
    rcases List.mem_append.1 h with h | h
    · exact Tr.c_one t c h
    · exact Tr.cs_one' r c h
mutual
/-- Its slices are short. -/
def Tr.small : Tr → Prop
  | .node _ _ d ks => d.length ≤ 1000000 ∧ ks.length ≤ 1000000 ∧ Tr.smalls ks
def Tr.smalls : List Tr → Prop
  | [] => True
  | t :: r => t.small ∧ Tr.smalls r
end
theorem Tr.smalls_at : ∀ {ks : List Tr}, Tr.smalls ks → ∀ j (h : j < ks.length), ks[j].small
  | _ :: _, h, 0, _ => h.1
  | _ :: _, h, j + 1, hj => Tr.smalls_at h.2 j (by simpa using hj)
end Go.Proofs.Ytdogiobppeemiaa
