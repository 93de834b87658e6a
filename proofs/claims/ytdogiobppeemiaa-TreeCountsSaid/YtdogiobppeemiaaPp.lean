/- What a text is parsed as, plain; new blocks as data; the law's texts: plain facts. -/
import Derived.Test.YtdogiobppeemiaaPa
import Derived.Test.YtdogiobppeemiaaTh
namespace Go.Proofs.Ytdogiobppeemiaa
set_option linter.unusedSimpArgs false
set_option linter.unusedVariables false
set_option linter.unnecessarySimpa false
open Go.RowKit

theorem left_zero (s : ByteArray) : left s 0 = s.data.toList := by simp [left]
/-- A tree's text is parsed as it. -/
theorem parse_text (t : Tr) (hn : t.nums) (hd : t.deep ≤ 400) : parse ⟨t.text.toArray⟩ = (t, 0) := by
  have h := rtree_text ⟨t.text.toArray⟩ 400 t 0 [] hn hd (by rw [left_zero]; simp) (by intro c r e; simp at e)
  unfold parse
  rw [h]
  have hs : (⟨t.text.toArray⟩ : ByteArray).size = t.text.length := by simp [ByteArray.size]
  simp [hs]
/-- What is parsed is written as the text. -/
theorem parse_back {s : ByteArray} {t : Tr} (h : parse s = (t, 0)) : s.data.toList = t.text ∧ t.deep ≤ 400 ∧ t.nums := by
  obtain ⟨⟨t', b, e⟩, hr⟩ : ∃ r, rtree s 400 0 0 = r := ⟨_, rfl⟩
  have hbd := rtree_bd s 400 0 0 (Nat.zero_le _)
  unfold parse at h
  rw [hr] at h hbd
  obtain ⟨_, b2, _, _⟩ := hbd
  simp only at h b2
  split at h
  · rename_i he
    subst he
    split at h
    · simp at h
    · rename_i hb
      simp only [Prod.mk.injEq, and_true] at h
      subst h
      obtain ⟨h1, h2, h3⟩ := rtree_back s 400 0 t' b (Nat.zero_le _) hr
      rw [left_zero, left_end hb, List.append_nil] at h1
      exact ⟨h1, h2, h3⟩
  · rename_i he
    simp only [Prod.mk.injEq] at h
    exact absurd h.2 he
/-- What isn't a tree's text. -/
theorem parse_err {s : ByteArray} {t : Tr} {e : Int} (h : parse s = (t, e)) (he : e ≠ 0) : t = zeroTr ∧ (e = 5 ∨ e = 40 ∨ e = 6) := by
  have hE := rtree_err s 400 0 0 (.inl rfl)
  unfold parse at h
  simp only at h
  split at h
  · split at h
    · simp only [Prod.mk.injEq] at h
      exact ⟨h.1.symm, .inl h.2.symm⟩
    · simp only [Prod.mk.injEq] at h
      exact absurd h.2.symm he
  · rename_i h0
    simp only [Prod.mk.injEq] at h
    refine ⟨h.1.symm, ?_⟩
    rw [← h.2]
    rcases hE with e | e | e | e
    · exact absurd e h0
    · exact .inl e
    · exact .inr (.inl e)
    · exact .inr (.inr e)
/-- Two trees with one text are one. -/
theorem text_inj {a b : Tr} (ha : a.nums) (hb : b.nums) (da : a.deep ≤ 400) (db : b.deep ≤ 400) (h : a.text = b.text) : a = b := by
  have h1 := parse_text a ha da
  have h2 := parse_text b hb db
  rw [h, h2] at h1
  simp only [Prod.mk.injEq, and_true] at h1
  exact h1.symm

/-- A new block of values is a row of data. -/
theorem rep_new {w : World} {cs : List C} {vs : List Value} (T : TypeId) {n k : Nat} (h : C.reps (· < w.heap.size) w cs vs) (hn : cs.length = n * k) (hm : n ≤ maxLen) :
    (C.sl k cs).rep (· < (w.alloc (.cells vs.toArray T)).heap.size) (w.alloc (.cells vs.toArray T)) (.slice (some ⟨w.heap.size, 0, none⟩) n n) := by
  rw [C.rep]
  have hl := C.reps_length h
  refine ⟨_, n, n, rfl, hn, Nat.le_refl _, hm, fun e => by simp at e, C.row_of (by rw [size_al]; omega) fun i hi => ?_⟩
  have hi' : i < vs.length := by omega
  refine ⟨vs[i], ?_, C.rep_mono (fun b hb => by rw [size_al]; omega) (fun b hb => heap_old _ hb) _ _ (C.reps_at h i hi hi')⟩
  have := cell_of_heap (j := i) (heap_new w (.cells vs.toArray T))
  simp [hi'] at this ⊢
theorem reps_tree {ok : Nat → Prop} {w : World} {t : Tr} {dv kv : Value} {r : List Tr} {vs : List Value} (h : TrAt ok w t dv kv) (h' : C.reps ok w (Tr.cs r) vs) : C.reps ok w (Tr.cs (t :: r)) (.int .u64 (t.num : Int) :: .bool t.blank :: dv :: kv :: vs) := by
  rw [Tr.cs]
  exact C.reps_append h.reps h'
theorem reps_none {ok : Nat → Prop} {w : World} : C.reps ok w (Tr.cs []) [] := by rw [Tr.cs]; trivial
theorem rep_none {ok : Nat → Prop} {w : World} (k : Nat) : (C.sl k []).rep ok w (.slice none 0 0) := by
  rw [C.rep]; exact ⟨none, 0, 0, rfl, by simp, by omega, by unfold maxLen; omega, fun _ => rfl, by rw [C.row]; trivial⟩
/-- A leaf. -/
theorem leaf {ok : Nat → Prop} {w : World} (n : Nat) (b : Bool) : TrAt ok w (.node n b [] []) (.slice none 0 0) (.slice none 0 0) :=
  ⟨rep_none 1, by show (C.sl 4 (Tr.cs [])).rep ok w _; rw [Tr.cs]; exact rep_none 4⟩

/-- The law's trees, and their texts. -/
def xD : Tr := .node 0 false [97, 98] []
def xO : Tr := .node 0 false [] [xD]
def xT (n : Nat) : Tr := .node 0 false [] [.node n false [] [], .node 0 true [] [], xO]
theorem xT5_text : (xT 5).text = [48, 40, 53, 44, 95, 48, 44, 48, 40, 48, 58, 54, 49, 54, 50, 41, 41] := by decide +kernel
theorem xT7_text : (xT 7).text = [48, 40, 55, 44, 95, 48, 44, 48, 40, 48, 58, 54, 49, 54, 50, 41, 41] := by decide +kernel
theorem xT_nums (n : Nat) (h : n < 18446744073709551616) : (xT n).nums := by simp [xT, xO, xD, Tr.nums, Tr.numss]; exact h
theorem xT_deep (n : Nat) : (xT n).deep = 3 := by simp [xT, xO, xD, Tr.deep, Tr.deeps]
theorem xT_size (n : Nat) : (xT n).size = 5 := by simp [xT, xO, xD, Tr.size, Tr.sizes]
theorem xT_ok (n : Nat) (h : n < 18446744073709551616) : (xT n).ok := by simp [xT, xO, xD, Tr.ok, Tr.oks, maxLen]; exact h
theorem xT_small (n : Nat) : (xT n).small := by simp [xT, xO, xD, Tr.small, Tr.smalls]
theorem xT_parse : parse ⟨#[48, 40, 53, 44, 95, 48, 44, 48, 40, 48, 58, 54, 49, 54, 50, 41, 41]⟩ = (xT 5, 0) := by
  have h := parse_text (xT 5) (xT_nums 5 (by omega)) (by rw [xT_deep]; omega)
  rw [xT5_text] at h
  exact h
theorem xT_at : (xT 5).at_ [2, 0] = some xD := by rfl
theorem xT_put : (xT 5).put (.node 7 false [] []) [0] = some (xT 7) := by rfl
end Go.Proofs.Ytdogiobppeemiaa
