/- Decimal digits, plain: what wide.Digits writes, what wide.Parse reads. No program in sight. -/
import Derived.WalkKit
import Derived.Below
namespace Go.Proofs.Ytdogiobppeemiaa
set_option linter.unusedSimpArgs false
set_option linter.unusedVariables false
set_option linter.unnecessarySimpa false
/-- A digit's sign. -/
def digB (d : Nat) : UInt8 := UInt8.ofNat (48 + d % 10)
theorem digB_toNat (d : Nat) : (digB d).toNat = 48 + d % 10 := by
  unfold digB; rw [UInt8.toNat_ofNat']; omega
/-- What the loop of Digits does from m on, with acc behind it. -/
def digLoop : Nat → Nat → List UInt8 → List UInt8
  | 0, _, acc => acc
  | f + 1, m, acc => if m / 10 = 0 then digB m :: acc else digLoop f (m / 10) (digB m :: acc)
def digs (n : Nat) : List UInt8 := digLoop 20 n []

theorem digLoop_length (f : Nat) : ∀ m acc, (digLoop f m acc).length ≤ f + acc.length := by
  induction f with
  | zero => intro m acc; simp [digLoop]
  | succ f ih =>
    intro m acc
    unfold digLoop
    split
    · simp; omega
    · have := ih (m / 10) (digB m :: acc); simp at this ⊢; omega
theorem digLoop_ne (f : Nat) : ∀ m acc, 1 ≤ f → digLoop f m acc ≠ [] := by
  induction f with
  | zero => intro m acc h; omega
  | succ f ih =>
    intro m acc _
    unfold digLoop
    split
    · simp
    · cases f with
      | zero => simp [digLoop]
      | succ f => exact ih _ _ (by omega)
theorem digs_length (n : Nat) : (digs n).length ≤ 20 := by have := digLoop_length 20 n []; simpa [digs] using this
theorem digs_ne (n : Nat) : digs n ≠ [] := digLoop_ne 20 n [] (by omega)

/-- Reading digits from the left, without a bound. -/
@[irreducible] def dval (c : UInt8) : Nat := c.toNat - 48
theorem dval_eq (c : UInt8) : dval c = c.toNat - 48 := by unfold dval; rfl
@[irreducible] def dstep (v : Nat) (c : UInt8) : Nat := v * 10 + dval c
theorem dstep_eq (v : Nat) (c : UInt8) : dstep v c = v * 10 + (c.toNat - 48) := by unfold dstep; rw [dval_eq]
def valOf : Nat → List UInt8 → Nat
  | v, [] => v
  | v, c :: r => valOf (dstep v c) r
theorem valOf_cons (v : Nat) (c : UInt8) (r : List UInt8) : valOf v (c :: r) = valOf (dstep v c) r := rfl
def isDig (c : UInt8) : Bool := decide (48 ≤ c.toNat ∧ c.toNat ≤ 57)
theorem isDig_digB (d : Nat) : isDig (digB d) = true := by simp [isDig, digB_toNat]; omega
theorem valOf_append (v : Nat) (a b : List UInt8) : valOf v (a ++ b) = valOf (valOf v a) b := by
  induction a generalizing v with
  | nil => rfl
  | cons c a ih => exact ih _

/-- Digits' text, read: the number, and what was behind. -/
theorem valOf_digLoop (f : Nat) : ∀ m acc, m < 10 ^ f → 1 ≤ f → valOf 0 (digLoop f m acc) = valOf m acc := by
  induction f with
  | zero => intro m acc _ h; omega
  | succ f ih =>
    intro m acc hm _
    unfold digLoop
    split
    · rename_i h
      have e : dstep 0 (digB m) = m := by rw [dstep_eq, digB_toNat]; omega
      rw [valOf_cons, e]
    · rename_i h
      have hf : 1 ≤ f := by
        rcases Nat.eq_zero_or_pos f with h0 | h0
        · subst h0; simp at hm; omega
        · exact h0
      rw [ih (m / 10) _ (by rw [Nat.pow_succ] at hm; omega) hf]
      have e : dstep (m / 10) (digB m) = m := by rw [dstep_eq, digB_toNat]; omega
      rw [valOf_cons, e]
theorem valOf_digs (n : Nat) (h : n < 18446744073709551616) : valOf 0 (digs n) = n := by
  unfold digs
  exact valOf_digLoop 20 n [] (by omega) (by omega)
theorem digLoop_dig (f : Nat) : ∀ m acc, (∀ c ∈ acc, isDig c = true) → ∀ c ∈ digLoop f m acc, isDig c = true := by
  induction f with
  | zero => intro m acc h; simpa [digLoop] using h
  | succ f ih =>
    intro m acc h
    have h' : ∀ c ∈ digB m :: acc, isDig c = true := by
      intro c hc
      rcases List.mem_cons.1 hc with rfl | hc
      · exact isDig_digB m
      · exact h c hc
    unfold digLoop
    split
    · exact h'
    · exact ih _ _ h'
theorem digs_dig (n : Nat) : ∀ c ∈ digs n, isDig c = true := digLoop_dig 20 n [] (by simp)
/-- No nought ahead. -/
theorem digLoop_head (f : Nat) : ∀ m acc, m < 10 ^ f → 1 ≤ f → (0 < m ∨ acc = []) → ∀ c r, digLoop f m acc = c :: r → (r = [] ∨ c.toNat ≠ 48) := by
  induction f with
  | zero => intro m acc _ h; omega
  | succ f ih =>
    intro m acc hm _ hz c r
    unfold digLoop
    split
    · rename_i h
      intro e
      simp only [List.cons.injEq] at e
      obtain ⟨rfl, rfl⟩ := e
      rcases hz with hz | hz
      · right; rw [digB_toNat]; omega
      · left; exact hz
    · rename_i h
      have hf : 1 ≤ f := by
        rcases Nat.eq_zero_or_pos f with h0 | h0
        · subst h0; simp at hm; omega
        · exact h0
      exact ih (m / 10) _ (by rw [Nat.pow_succ] at hm; omega) hf (.inl (by omega)) c r
theorem digs_head (n : Nat) (h : n < 18446744073709551616) (c : UInt8) (r : List UInt8) (e : digs n = c :: r) : r = [] ∨ c.toNat ≠ 48 :=
  digLoop_head 20 n [] (by omega) (by omega) (.inr rfl) c r e

theorem isDig_iff {c : UInt8} (h : isDig c = true) : 48 ≤ c.toNat ∧ c.toNat ≤ 57 := of_decide_eq_true h
theorem valOf_snoc (v : Nat) (a : List UInt8) (c : UInt8) : valOf v (a ++ [c]) = dstep (valOf v a) c := valOf_append v a [c]
theorem valOf_pos (r : List UInt8) : ∀ v : Nat, 0 < v → 0 < valOf v r := by
  induction r with
  | nil => intro v h; exact h
  | cons x r ihr =>
    intro v h
    have h2 : 0 < dstep v x := by rw [dstep_eq]; omega
    exact ihr _ h2
theorem digB_eq (v : Nat) (c : UInt8) (h : isDig c = true) : digB (dstep v c) = c := by
  have := isDig_iff h
  apply UInt8.toNat_inj.1
  rw [digB_toNat, dstep_eq]; omega
theorem digLoop_step (f V : Nat) (c : UInt8) (acc : List UInt8) (h : isDig c = true) : digLoop (f + 1) (dstep V c) acc = if V = 0 then c :: acc else digLoop f V (c :: acc) := by
  have h1 := digB_eq V c h
  have h2 : dstep V c / 10 = V := by have := isDig_iff h; rw [dstep_eq]; omega
  generalize dstep V c = X at *
  subst h2
  show (if X / 10 = 0 then digB X :: acc else digLoop f (X / 10) (digB X :: acc)) = _
  rw [h1]
/-- Back: digits without a nought ahead are their number's. By the number of digits. -/
theorem digLoop_back (f : Nat) : ∀ (l : List UInt8) (acc : List UInt8), l.length ≤ f → l ≠ [] → (∀ c ∈ l, isDig c = true) → (∀ c r, l = c :: r → r = [] ∨ c.toNat ≠ 48) → digLoop f (valOf 0 l) acc = l ++ acc := by
  induction f with
  | zero => intro l acc h1 h2; cases l <;> simp at h1 h2
  | succ f ih =>
    intro l acc h1 h2 hd hz
    obtain ⟨a, c, rfl⟩ : ∃ a c, l = a ++ [c] := ⟨l.dropLast, l.getLast h2, (List.dropLast_concat_getLast h2).symm⟩
    have hc : isDig c = true := hd c (by simp)
    rw [valOf_snoc, digLoop_step f _ c acc hc]
    cases a with
    | nil => rfl
    | cons b r =>
      have hb' : b.toNat ≠ 48 := by
        rcases hz b (r ++ [c]) rfl with h | h
        · simp at h
        · exact h
      have hbd := isDig_iff (hd b (by simp))
      have hpos : valOf 0 (b :: r) ≠ 0 := by
        have h3 : 0 < dstep 0 b := by rw [dstep_eq]; omega
        have := valOf_pos r _ h3
        exact Nat.ne_of_gt this
      rw [if_neg hpos, ih (b :: r) (c :: acc) (by simp at h1 ⊢; omega) (by simp) (fun x hx => hd x (List.mem_append_left _ hx)) (fun x s e => by
        rcases hz x (s ++ [c]) (by rw [e]; rfl) with h | h
        · simp at h
        · exact .inr h)]
      simp
theorem digs_back (l : List UInt8) (h1 : l.length ≤ 20) (h2 : l ≠ []) (hd : ∀ c ∈ l, isDig c = true) (hz : ∀ c r, l = c :: r → r = [] ∨ c.toNat ≠ 48) : digs (valOf 0 l) = l := by
  have := digLoop_back 20 l [] h1 h2 hd hz
  simpa [digs] using this
end Go.Proofs.Ytdogiobppeemiaa
