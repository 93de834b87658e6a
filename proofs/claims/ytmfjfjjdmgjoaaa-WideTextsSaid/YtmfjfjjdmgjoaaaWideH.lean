/- The law WideTexts: its walk. -/
import Derived.Test.YtmfjfjjdmgjoaaaWideG
namespace Go.Proofs.Ytmfjfjjdmgjoaaa
open Go.RowKit Go.Lib

/-- A number that is read has no more than 20 digits, if no nought is ahead. -/
theorem pow_step (v x n : Nat) : v * 10 ^ (n + 1) ≤ (v * 10 + x) * 10 ^ n := by
  rw [Nat.pow_succ, Nat.mul_comm (10 ^ n) 10, ← Nat.mul_assoc]
  exact Nat.mul_le_mul_right _ (Nat.le_add_right _ _)
theorem valOf_ge (r : List UInt8) : ∀ v : Nat, v * 10 ^ r.length ≤ valOf v r := by
  induction r with
  | nil => intro v; rw [List.length_nil, Nat.pow_zero, Nat.mul_one]; exact Nat.le_refl _
  | cons c r ih =>
    intro v
    rw [valOf_cons, List.length_cons, dstep_eq]
    generalize c.toNat - 48 = x
    have := ih (v * 10 + x)
    exact Nat.le_trans (pow_step v x r.length) this
theorem pow_big (n : Nat) (h : 10 ^ n < 18446744073709551616) : n < 20 := by
  rcases Nat.lt_or_ge n 20 with h1 | h1
  · exact h1
  · have h2 := Nat.pow_le_pow_right (n := 10) (by omega) h1
    have h3 : 10 ^ 20 = 100000000000000000000 := by decide
    rw [h3] at h2
    omega
theorem length_of_valOf (l : List UInt8) (h : valOf 0 l < 18446744073709551616) (hd : ∀ c ∈ l, isDig c = true) (hz : ∀ c r, l = c :: r → r = [] ∨ c.toNat ≠ 48) : l.length ≤ 20 := by
  cases l with
  | nil => simp
  | cons c r =>
    rcases hz c r rfl with h0 | h0
    · subst h0; simp
    · have hc := isDig_iff (hd c (by simp))
      rw [valOf_cons] at h
      have h1 : 1 ≤ dstep 0 c := by rw [dstep_eq]; omega
      generalize dstep 0 c = x at h h1
      have h2 := valOf_ge r x
      have h3 : 1 * 10 ^ r.length ≤ x * 10 ^ r.length := Nat.mul_le_mul_right _ h1
      have h4 : 10 ^ r.length < 18446744073709551616 := by
        rw [Nat.one_mul] at h3
        exact Nat.lt_of_le_of_lt (Nat.le_trans h3 h2) h
      have h5 := pow_big _ h4
      rw [List.length_cons]; omega

theorem isDig_or (c : UInt8) (r : List UInt8) (n : Nat) (g : Bool) (h : ¬ isDig c = true) : parseLoop (c :: r) n g = (0, 5) := parseLoop_bad h

/-- Parse's loop over digits that are read as a number that fits. -/
theorem parseLoop_val (l : List UInt8) : ∀ n : Nat, (∀ c ∈ l, isDig c = true) → valOf n l < 18446744073709551616 → parseLoop l n false = ((valOf n l : Int), 0) := by
  induction l with
  | nil => intro n _ _; rfl
  | cons c r ih =>
    intro n hd hv
    rw [valOf_cons] at hv ⊢
    have h4 : 10 * n + (c.toNat - 48) = dstep n c := by rw [dstep_eq, Nat.mul_comm]
    have hge := valOf_ge r (dstep n c)
    have h1 : 1 ≤ 10 ^ r.length := Nat.one_le_pow _ _ (by omega)
    have h2 : dstep n c * 1 ≤ dstep n c * 10 ^ r.length := Nat.mul_le_mul_left _ h1
    have h3 : 10 * n + (c.toNat - 48) ≤ 18446744073709551615 := by
      rw [h4]
      rw [Nat.mul_one] at h2
      exact Nat.le_of_lt_succ (Nat.lt_of_le_of_lt (Nat.le_trans h2 hge) hv)
    rw [parseLoop_dig (hd c (by simp)) h3, h4]
    exact ih _ (fun x hx => hd x (by simp [hx])) hv
theorem parseBad_head (l : List UInt8) (h : parseBad l = false) : l ≠ [] ∧ ∀ c r, l = c :: r → r = [] ∨ c.toNat ≠ 48 := by
  match l, h with
  | [c], _ => exact ⟨by simp, fun c' r e => by simp at e; exact .inl e.2⟩
  | c :: d :: r, h =>
    refine ⟨by simp, fun c' r' e => ?_⟩
    simp only [List.cons.injEq] at e
    obtain ⟨rfl, rfl⟩ := e
    right
    simpa [parseBad] using h
theorem parseBad_of (l : List UInt8) (h : l ≠ []) (hz : ∀ c r, l = c :: r → r = [] ∨ c.toNat ≠ 48) : parseBad l = false := by
  match l, h with
  | [c], _ => rfl
  | c :: d :: r, _ =>
    have := hz c (d :: r) rfl
    simp at this
    simp [parseBad, this]
theorem parseS_digs (n : Nat) (h : n < 18446744073709551616) : parseS (digs n) = ((n : Int), 0) := by
  have hb := parseBad_of (digs n) (digs_ne n) (digs_head n h)
  unfold parseS
  rw [hb]
  have := parseLoop_val (digs n) 0 (digs_dig n) (by rw [valOf_digs n h]; exact h)
  rw [valOf_digs n h] at this
  exact this

/-- Digits of a number, and Parse of these: as the law meets them. -/
theorem digits_parse (n : Nat) (h : n < 18446744073709551616) : ∃ d : ByteArray, d.size ≤ 20 ∧ d.toList.isEmpty = false ∧
    (∀ w, Calls Try.prog 15 #[.int .u64 n] w fun e w' => e = .returned (.string d) ∧ Below w.heap.size w w') ∧
    (∀ w, Calls Try.prog 16 #[.string d] w fun e w' => e = .returned (.tuple #[.int .u64 n, .int .i64 0]) ∧ w = w') := by
  refine ⟨⟨(digs n).toArray⟩, by simpa [ByteArray.size] using digs_length n, ?_, fun w => wdigits n w h, fun w => ?_⟩
  · rw [ByteArray.toList_mk]
    have := digs_ne n
    simpa using this
  · have hl := digs_length n
    have := wparse ⟨(digs n).toArray⟩ w (by unfold maxLen; simp [ByteArray.size]; omega)
    have e : parseS (ByteArray.mk (digs n).toArray).data.toList = ((n : Int), 0) := parseS_digs n h
    rw [e] at this
    exact this

/-- The state of WideTexts' loop at a round's head. -/
def TextInv (s : ByteArray) (b : Bool) (i gd v ov : Value) : Prop :=
  ∃ (k n m : Nat) (o : Bool), i = .int .i64 (k : Int) ∧ gd = .bool b ∧ v = .int .u64 (m : Int) ∧ ov = .bool o ∧ k ≤ s.size ∧ m < 18446744073709551616 ∧ n < 18446744073709551616 ∧
    (o = false → n = m ∧ m = valOf 0 (s.data.toList.take k)) ∧ parseLoop (s.data.toList.drop k) n o = parseLoop s.data.toList 0 false ∧ (∀ c ∈ s.data.toList.take k, isDig c = true)

theorem take_at (s : ByteArray) (k : Nat) (h : k < s.size) : s.data.toList.take (k + 1) = s.data.toList.take k ++ [s[k]] := by
  rw [List.take_succ_eq_append_getElem (by simpa using h)]; rfl


theorem TextInv.start (s : ByteArray) (b : Bool) : TextInv s b (.int .i64 0) (.bool b) (.int .u64 0) (.bool false) :=
  ⟨0, 0, 0, false, rfl, rfl, rfl, rfl, by omega, by omega, by omega, fun _ => ⟨rfl, rfl⟩, rfl, by simp⟩

/-- Where the loop ends: what Parse said of the text, and what the law asks of it. -/
theorem text_bad {s : ByteArray} (h : parseBad s.data.toList = true) : parseS s.data.toList = (0, 5) := by unfold parseS; rw [if_pos h]
theorem text_sign {s : ByteArray} {k n : Nat} {o : Bool} (hk : k < s.size) (hp : parseLoop (s.data.toList.drop k) n o = parseLoop s.data.toList 0 false) (hc : ¬ isDig s[k] = true) : parseS s.data.toList = (0, 5) := by
  unfold parseS
  rw [drop_at s k hk, parseLoop_bad hc] at hp
  rw [← hp]; split <;> rfl
theorem text_end {s : ByteArray} {k n : Nat} {o : Bool} (hk : s.size ≤ k) (hp : parseLoop (s.data.toList.drop k) n o = parseLoop s.data.toList 0 false) (hb : parseBad s.data.toList = false) :
    parseS s.data.toList = if o = true then (0, 40) else ((n : Int), 0) := by
  unfold parseS
  rw [List.drop_eq_nil_of_le (by simpa using hk)] at hp
  rw [hb, ← hp]; rfl
theorem text_digits {s : ByteArray} {k m : Nat} (hk : s.size ≤ k) (hm : m = valOf 0 (s.data.toList.take k)) (hM : m < 18446744073709551616) (hd : ∀ c ∈ s.data.toList.take k, isDig c = true) (hb : parseBad s.data.toList = false) (w : World) :
    Calls Try.prog 15 #[.int .u64 m] w fun e w' => e = .returned (.string s) ∧ Below w.heap.size w w' := by
  have ht : s.data.toList.take k = s.data.toList := List.take_of_length_le (by simpa using hk)
  rw [ht] at hm hd
  obtain ⟨h1, h2⟩ := parseBad_head _ hb
  have hl := length_of_valOf s.data.toList (by omega) hd h2
  have hdg := digs_back s.data.toList hl h1 hd h2
  have h := wdigits m w hM
  rw [hm, hdg] at h
  rw [hm]
  exact h
theorem TextInv.next {s : ByteArray} {b o : Bool} {k n m : Nat} (hlt : k < s.size) (hm : m < 18446744073709551616) (_hn : n < 18446744073709551616) (ho : o = false → n = m ∧ m = valOf 0 (s.data.toList.take k))
    (hp : parseLoop (s.data.toList.drop k) n o = parseLoop s.data.toList 0 false) (hd : ∀ c ∈ s.data.toList.take k, isDig c = true) (hc : isDig s[k] = true) :
    (o = true → TextInv s b (.int .i64 ((k : Int) + 1)) (.bool b) (.int .u64 m) (.bool true)) ∧
    (o = false → (18446744073709551615 - ((s[k].toNat : Int) - 48)) / 10 < (m : Int) → TextInv s b (.int .i64 ((k : Int) + 1)) (.bool b) (.int .u64 m) (.bool true)) ∧
    (o = false → (m : Int) ≤ (18446744073709551615 - ((s[k].toNat : Int) - 48)) / 10 → TextInv s b (.int .i64 ((k : Int) + 1)) (.bool b) (.int .u64 ((m : Int) * 10 + ((s[k].toNat : Int) - 48))) (.bool false)) := by
  have hcd := isDig_iff hc
  have hd' : ∀ c ∈ s.data.toList.take (k + 1), isDig c = true := by
    rw [take_at s k hlt]
    intro c h
    rcases List.mem_append.1 h with h | h
    · exact hd c h
    · simp at h; subst h; exact hc
  rw [drop_at s k hlt] at hp
  refine ⟨fun h => ?_, fun h h1 => ?_, fun h h1 => ?_⟩
  · subst h
    by_cases hx : 10 * n + (s[k].toNat - 48) ≤ 18446744073709551615
    · rw [parseLoop_dig hc hx] at hp
      exact ⟨k + 1, _, m, true, rfl, rfl, rfl, rfl, by omega, hm, by omega, fun h => by simp at h, hp, hd'⟩
    · rw [parseLoop_great hc hx] at hp
      exact ⟨k + 1, 0, m, true, rfl, rfl, rfl, rfl, by omega, hm, by omega, fun h => by simp at h, hp, hd'⟩
  · subst h
    obtain ⟨rfl, _⟩ := ho rfl
    rw [parseLoop_great hc (by omega)] at hp
    exact ⟨k + 1, 0, n, true, rfl, rfl, rfl, rfl, by omega, hm, by omega, fun h => by simp at h, hp, hd'⟩
  · subst h
    obtain ⟨rfl, hv⟩ := ho rfl
    rw [parseLoop_dig hc (by omega)] at hp
    refine ⟨k + 1, _, 10 * n + (s[k].toNat - 48), false, rfl, rfl, by congr 1; omega, rfl, by omega, by omega, by omega, fun _ => ⟨rfl, ?_⟩, hp, hd'⟩
    rw [take_at s k hlt, valOf_snoc, ← hv, dstep_eq]
    omega
end Go.Proofs.Ytmfjfjjdmgjoaaa
