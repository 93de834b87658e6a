/- The reader's tree, plain: what a text is read as. -/
import Derived.Test.YtdogiobppeemiaaRw
import Derived.Test.YtdogiobppeemiaaWd
namespace Go.Proofs.Ytdogiobppeemiaa
set_option linter.unusedSimpArgs false
set_option linter.unusedVariables false
set_option linter.unnecessarySimpa false
open Go.RowKit

def dig10 : List UInt8 := [48, 49, 50, 51, 52, 53, 54, 55, 56, 57]
def dig16 : List UInt8 := [48, 49, 50, 51, 52, 53, 54, 55, 56, 57, 97, 98, 99, 100, 101, 102]
/-- The first error counts. -/
def worse (bad e : Int) : Int := if bad = 0 then e else bad
theorem parseLoop_nn : ∀ (l : List UInt8) (n : Nat) (g : Bool), 0 ≤ (parseLoop l n g).1
  | [], n, g => by unfold parseLoop; split <;> simp <;> omega
  | c :: r, n, g => by
    unfold parseLoop
    split
    · split
      · exact parseLoop_nn r _ g
      · exact parseLoop_nn r _ true
    · exact Int.le_refl _
theorem parseS_nn (l : List UInt8) : 0 ≤ (parseS l).1 := by
  unfold parseS
  split
  · exact Int.le_refl _
  · exact parseLoop_nn l 0 false
def zeroTr : Tr := .node 0 false [] []
def step (s : ByteArray) (a : Nat) (bad : Int) (c : Nat) : Nat := if eats s a bad c = true then a + 1 else a

/-- One byte of two digits. -/
def pairI (c d : UInt8) : Int := IntKind.u8.wrap (bits BinOp.or IntKind.i64 (IntKind.i64.wrap (Lib.indexByte dig16 c * 16)) (Lib.indexByte dig16 d))
def pairV (c d : UInt8) : UInt8 := (pairI c d).toNat.toUInt8
theorem pairV_val (c d : UInt8) : (((pairV c d).toNat : Nat) : Int) = pairI c d := by
  have h : 0 ≤ pairI c d ∧ pairI c d < 256 := by
    unfold pairI
    generalize bits BinOp.or IntKind.i64 (IntKind.i64.wrap (Lib.indexByte dig16 c * 16)) (Lib.indexByte dig16 d) = x
    have : IntKind.u8.wrap x = x % 256 := by simp [IntKind.wrap, IntKind.signed, IntKind.bits]
    omega
  unfold pairV
  have : ((pairI c d).toNat.toUInt8).toNat = (pairI c d).toNat % 256 := by simp
  omega
def pairsV : List UInt8 → List UInt8
  | c :: d :: r => pairV c d :: pairsV r
  | _ => []

theorem pairsV_more : ∀ (l : List UInt8) (j : Nat) (h : 2 * j + 1 < l.length), pairsV (l.take (2 * (j + 1))) = pairsV (l.take (2 * j)) ++ [pairV (l[2 * j]'(by omega)) (l[2 * j + 1]'h)]
  | [], j, h => by simp at h
  | [_], j, h => by simp at h
  | c :: d :: r, 0, h => by simp [pairsV]
  | c :: d :: r, j + 1, h => by
    have e1 : 2 * (j + 1 + 1) = 2 * (j + 1) + 1 + 1 := by omega
    have e2 : 2 * (j + 1) = 2 * j + 1 + 1 := by omega
    have h' : 2 * j + 1 < r.length := by simp at h; omega
    have ih := pairsV_more r j h'
    rw [e1, List.take_succ_cons, List.take_succ_cons, pairsV, ih]
    simp only [e2, List.take_succ_cons, pairsV, List.cons_append, List.getElem_cons_succ]
theorem pairsV_len : ∀ (l : List UInt8), (pairsV l).length = l.length / 2
  | [] => rfl
  | [_] => by simp [pairsV]
  | c :: d :: r => by rw [pairsV, List.length_cons, pairsV_len r, List.length_cons, List.length_cons]; omega
/-- The parts, in a row. -/
def rkids (rt : Nat → Int → Tr × Nat × Int) (s : ByteArray) : Nat → Bool → Nat → Int → List Tr × Nat × Int
  | 0, _, a, bad => ([], a, bad)
  | n + 1, more, a, bad =>
    if more = true ∧ bad = 0 then
      let k := rt a bad
      let r := rkids rt s n (eats s k.2.1 k.2.2 44) (step s k.2.1 k.2.2 44) k.2.2
      (k.1 :: r.1, r.2)
    else ([], a, bad)

/-- The way behind the data. -/
def rtail (rt : Nat → Int → Tr × Nat × Int) (s : ByteArray) (num : Nat) (bl : Bool) (d : List UInt8) (a : Nat) (bad : Int) : Tr × Nat × Int :=
  if eats s a bad 40 = true then
    let r := rkids rt s (2 * s.size + 3) true (a + 1) bad
    (.node num bl d r.1, step s r.2.1 r.2.2 41, if eats s r.2.1 r.2.2 41 = true then r.2.2 else worse r.2.2 5)
  else (.node num bl d [], a, bad)

/-- The number's error. -/
def numOf (s : ByteArray) (a : Nat) : Int × Int := parseS (s.extract a (a + run_ s dig10 a)).data.toList
def rtree (s : ByteArray) : Nat → Nat → Int → Tr × Nat × Int
  | 0, a, bad => (zeroTr, a, worse bad 6)
  | f + 1, a, bad =>
    let a1 := step s a bad 95
    let a2 := a1 + run_ s dig10 a1
    let bad1 := if (numOf s a1).2 = 0 then bad else worse bad (numOf s a1).2
    if eats s a2 bad1 58 = true then
      let m := run_ s dig16 (a2 + 1)
      if m = 0 ∨ m % 2 ≠ 0 then (zeroTr, a2 + 1 + m, worse bad1 5)
      else rtail (rtree s f) s (numOf s a1).1.toNat (eats s a bad 95) (pairsV (s.extract (a2 + 1) (a2 + 1 + m)).data.toList) (a2 + 1 + m) bad1
    else rtail (rtree s f) s (numOf s a1).1.toNat (eats s a bad 95) [] a2 bad1

theorem eats_bad {s : ByteArray} {a : Nat} {bad : Int} {c : Nat} (h : eats s a bad c = true) : bad = 0 ∧ a < s.size := by
  unfold eats at h
  rw [Bool.and_eq_true, decide_eq_true_eq] at h
  refine ⟨h.1, ?_⟩
  have h2 := h.2
  split at h2
  · assumption
  · simp at h2
theorem step_bd (s : ByteArray) (a : Nat) (bad : Int) (c : Nat) (h : a ≤ s.size) : a ≤ step s a bad c ∧ step s a bad c ≤ s.size := by
  unfold step
  split
  · rename_i he; have := eats_bad he; omega
  · omega

theorem parseS_err : parseS [] = (0, 5) := rfl
theorem numOf_err {s : ByteArray} {a : Nat} (h : run_ s dig10 a = 0) : (numOf s a).2 = 5 := by
  unfold numOf
  rw [h, Nat.add_zero]
  have : (s.extract a a).data.toList = [] := by simp
  rw [this]; rfl
theorem worse_ne {bad e : Int} (h : e ≠ 0) : worse bad e ≠ 0 := by
  unfold worse; split <;> assumption

/-- What a reading leaves: the place is no smaller and still in the text; with no error so far it went on, or there is one now. -/
def Reads (s : ByteArray) (a : Nat) (bad : Int) (r : Tr × Nat × Int) : Prop :=
  a ≤ r.2.1 ∧ r.2.1 ≤ s.size ∧ (bad ≠ 0 → r.2.2 = bad) ∧ (r.2.2 = 0 → a < r.2.1)

theorem rkids_bd (rt : Nat → Int → Tr × Nat × Int) (s : ByteArray) (hrt : ∀ a bad, a ≤ s.size → Reads s a bad (rt a bad)) : ∀ (n : Nat) (more : Bool) (a : Nat) (bad : Int), a ≤ s.size →
    a ≤ (rkids rt s n more a bad).2.1 ∧ (rkids rt s n more a bad).2.1 ≤ s.size ∧ (bad ≠ 0 → (rkids rt s n more a bad).2.2 = bad)
  | 0, _, a, bad, h => ⟨Nat.le_refl _, h, fun _ => rfl⟩
  | n + 1, more, a, bad, h => by
    rw [rkids]
    split
    · rename_i hc
      obtain ⟨h1, h2, h3, h4⟩ := hrt a bad h
      obtain ⟨g1, g2⟩ := step_bd s (rt a bad).2.1 (rt a bad).2.2 44 h2
      obtain ⟨i1, i2, i3⟩ := rkids_bd rt s hrt n (eats s (rt a bad).2.1 (rt a bad).2.2 44) _ (rt a bad).2.2 g2
      exact ⟨by simp only; omega, by simp only; omega, fun hb => absurd hc.2 hb⟩
    · exact ⟨Nat.le_refl _, h, fun _ => rfl⟩

theorem rtail_bd (rt : Nat → Int → Tr × Nat × Int) (s : ByteArray) (hrt : ∀ a bad, a ≤ s.size → Reads s a bad (rt a bad)) (num : Nat) (bl : Bool) (d : List UInt8) (a : Nat) (bad : Int) (h : a ≤ s.size) :
    a ≤ (rtail rt s num bl d a bad).2.1 ∧ (rtail rt s num bl d a bad).2.1 ≤ s.size ∧ (bad ≠ 0 → (rtail rt s num bl d a bad).2.2 = bad) := by
  unfold rtail
  split
  · rename_i he
    obtain ⟨hb, hl⟩ := eats_bad he
    obtain ⟨i1, i2, i3⟩ := rkids_bd rt s hrt (2 * s.size + 3) true (a + 1) bad (by omega)
    obtain ⟨g1, g2⟩ := step_bd s (rkids rt s (2 * s.size + 3) true (a + 1) bad).2.1 (rkids rt s (2 * s.size + 3) true (a + 1) bad).2.2 41 i2
    exact ⟨by simp only; omega, by simp only; omega, fun h => absurd hb h⟩
  · exact ⟨Nat.le_refl _, h, fun _ => rfl⟩

theorem rtree_bd (s : ByteArray) : ∀ (f a : Nat) (bad : Int), a ≤ s.size → Reads s a bad (rtree s f a bad)
  | 0, a, bad, h => ⟨Nat.le_refl _, h, fun hb => by rw [rtree]; simp [worse, hb], fun h0 => absurd h0 (by rw [rtree]; exact worse_ne (by decide))⟩
  | f + 1, a, bad, h => by
    have hrt := rtree_bd s f
    obtain ⟨g1, g2⟩ := step_bd s a bad 95 h
    have hr := run_le s dig10 _ g2
    rw [rtree]
    simp only
    generalize hb1 : (if (numOf s (step s a bad 95)).2 = 0 then bad else worse bad (numOf s (step s a bad 95)).2) = bad1
    have hk : bad ≠ 0 → bad1 = bad := fun hb => by rw [← hb1]; split <;> simp [worse, hb]
    have hz : bad1 = 0 → run_ s dig10 (step s a bad 95) ≠ 0 := fun h0 hr0 => by
      have e := numOf_err hr0
      rw [e, if_neg (by decide)] at hb1
      exact worse_ne (by decide) (hb1.trans h0)
    split
    · rename_i he
      obtain ⟨hb, hl⟩ := eats_bad he
      have hr2 := run_le s dig16 (step s a bad 95 + run_ s dig10 (step s a bad 95) + 1) (by omega)
      split
      · exact ⟨by simp only; omega, by simp only; omega, fun h0 => absurd ((hk h0).symm.trans hb) h0, fun h0 => absurd h0 (worse_ne (by decide))⟩
      · obtain ⟨i1, i2, i3⟩ := rtail_bd (rtree s f) s hrt (numOf s (step s a bad 95)).1.toNat (eats s a bad 95) (pairsV (s.extract (step s a bad 95 + run_ s dig10 (step s a bad 95) + 1) (step s a bad 95 + run_ s dig10 (step s a bad 95) + 1 + run_ s dig16 (step s a bad 95 + run_ s dig10 (step s a bad 95) + 1))).data.toList) (step s a bad 95 + run_ s dig10 (step s a bad 95) + 1 + run_ s dig16 (step s a bad 95 + run_ s dig10 (step s a bad 95) + 1)) bad1 (by omega)
        exact ⟨by omega, i2, fun h0 => absurd ((hk h0).symm.trans hb) h0, fun h0 => by omega⟩
    · obtain ⟨i1, i2, i3⟩ := rtail_bd (rtree s f) s hrt (numOf s (step s a bad 95)).1.toNat (eats s a bad 95) [] (step s a bad 95 + run_ s dig10 (step s a bad 95)) bad1 (by omega)
      refine ⟨by omega, i2, fun h0 => (i3 (by rw [hk h0]; exact h0)).trans (hk h0), fun h0 => ?_⟩
      by_cases hb : bad1 = 0
      · have := hz hb; omega
      · exact absurd ((i3 hb).symm.trans h0) hb

theorem rtree_bad {s : ByteArray} {f a : Nat} {bad : Int} {n a2 : Nat} {er bad1 : Int} (h : numOf s (step s a bad 95) = ((n : Int), er) ∧ step s a bad 95 + run_ s dig10 (step s a bad 95) = a2 ∧ (if er = 0 then bad else worse bad er) = bad1)
    (he : eats s a2 bad1 58 = true) (hm : run_ s dig16 (a2 + 1) = 0 ∨ run_ s dig16 (a2 + 1) % 2 ≠ 0) : rtree s (f + 1) a bad = (zeroTr, a2 + 1 + run_ s dig16 (a2 + 1), worse bad1 5) := by
  rw [rtree]
  simp only [h.1, h.2.1, h.2.2]
  rw [if_pos he, if_pos hm]
theorem rtree_data {s : ByteArray} {f a : Nat} {bad : Int} {n a2 : Nat} {er bad1 : Int} (h : numOf s (step s a bad 95) = ((n : Int), er) ∧ step s a bad 95 + run_ s dig10 (step s a bad 95) = a2 ∧ (if er = 0 then bad else worse bad er) = bad1)
    (he : eats s a2 bad1 58 = true) (hm : ¬ (run_ s dig16 (a2 + 1) = 0 ∨ run_ s dig16 (a2 + 1) % 2 ≠ 0)) :
    rtree s (f + 1) a bad = rtail (rtree s f) s n (eats s a bad 95) (pairsV (s.extract (a2 + 1) (a2 + 1 + run_ s dig16 (a2 + 1))).data.toList) (a2 + 1 + run_ s dig16 (a2 + 1)) bad1 := by
  rw [rtree]
  simp only [h.1, h.2.1, h.2.2]
  rw [if_pos he, if_neg hm]; rfl
theorem rtree_none {s : ByteArray} {f a : Nat} {bad : Int} {n a2 : Nat} {er bad1 : Int} (h : numOf s (step s a bad 95) = ((n : Int), er) ∧ step s a bad 95 + run_ s dig10 (step s a bad 95) = a2 ∧ (if er = 0 then bad else worse bad er) = bad1)
    (he : eats s a2 bad1 58 = false) : rtree s (f + 1) a bad = rtail (rtree s f) s n (eats s a bad 95) [] a2 bad1 := by
  rw [rtree]
  simp only [h.1, h.2.1, h.2.2]
  rw [if_neg (by rw [he]; simp)]; rfl
end Go.Proofs.Ytdogiobppeemiaa
