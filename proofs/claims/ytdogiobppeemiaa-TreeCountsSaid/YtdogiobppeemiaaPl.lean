/- The reader's tree, plain: a tree's text is read as it, and what is read is written as the text. No program in sight. -/
import Derived.Test.YtdogiobppeemiaaPr
namespace Go.Proofs.Ytdogiobppeemiaa
set_option linter.unusedSimpArgs false
set_option linter.unusedVariables false
set_option linter.unnecessarySimpa false
open Go.RowKit

theorem all256 {P : UInt8 → Prop} (h : ∀ n : Fin 256, P (UInt8.ofNat n.val)) (c : UInt8) : P c := by
  have := h ⟨c.toNat, c.toNat_lt⟩
  simpa using this

theorem parseLoop_back : ∀ (l : List UInt8) (n : Nat) (g : Bool) (m : Int), n < 18446744073709551616 → parseLoop l n g = (m, 0) →
    g = false ∧ (∀ c ∈ l, isDig c = true) ∧ m = (valOf n l : Int) ∧ valOf n l < 18446744073709551616
  | [], n, g, m, hn, h => by
    rw [parseLoop] at h
    split at h
    · simp at h
    · rename_i hg
      refine ⟨by simpa using hg, by simp, ?_, hn⟩
      simp only [Prod.mk.injEq, and_true] at h
      exact h.symm
  | c :: r, n, g, m, hn, h => by
    rw [parseLoop] at h
    split at h
    · rename_i hc
      split at h
      · rename_i hf
        have hf' := Nat.lt_succ_of_le hf
        obtain ⟨h1, h2, h3, h4⟩ := parseLoop_back r _ g m hf' h
        have e : 10 * n + (c.toNat - 48) = dstep n c := by rw [dstep_eq, Nat.mul_comm]
        rw [e] at h3 h4
        exact ⟨h1, by simpa [hc] using h2, h3, h4⟩
      · have := (parseLoop_back r 0 true m (by omega) h).1
        simp at this
    · simp at h
theorem parseS_back {l : List UInt8} {n : Nat} (h : parseS l = ((n : Int), 0)) : n < 18446744073709551616 ∧ digs n = l := by
  unfold parseS at h
  split at h
  · simp at h
  · rename_i hb
    obtain ⟨_, h2, h3, h4⟩ := parseLoop_back l 0 false _ (by omega) h
    obtain ⟨k1, k2⟩ := parseBad_head l (by simpa using hb)
    have hn : n = valOf 0 l := by omega
    subst hn
    exact ⟨h4, digs_back l (length_of_valOf l h4 h2 k2) k1 h2 k2⟩
theorem parseLoop_err : ∀ (l : List UInt8) (n : Nat) (g : Bool), (parseLoop l n g).2 = 0 ∨ (parseLoop l n g).2 = 5 ∨ (parseLoop l n g).2 = 40
  | [], n, g => by rw [parseLoop]; split <;> simp
  | c :: r, n, g => by
    rw [parseLoop]
    split
    · split
      · exact parseLoop_err r _ g
      · exact parseLoop_err r 0 true
    · simp
theorem parseS_errs (l : List UInt8) : (parseS l).2 = 0 ∨ (parseS l).2 = 5 ∨ (parseS l).2 = 40 := by
  unfold parseS
  split
  · simp
  · exact parseLoop_err l 0 false

theorem among10 : ∀ c : UInt8, among dig10 c = isDig c := all256 (by decide +kernel)
theorem pair_hex : ∀ x : UInt8, pairV (hexB (x.toNat / 16)) (hexB (x.toNat % 16)) = x := all256 (by decide +kernel)
theorem hex_among : ∀ x : UInt8, among dig16 (hexB (x.toNat / 16)) = true ∧ among dig16 (hexB (x.toNat % 16)) = true := all256 (by decide +kernel)
theorem among16 : ∀ c : UInt8, among dig16 c = true → c ∈ dig16 := all256 (by decide +kernel)
theorem hex_back : ∀ c ∈ dig16, ∀ d ∈ dig16, hexB ((pairV c d).toNat / 16) = c ∧ hexB ((pairV c d).toNat % 16) = d := by decide +kernel

theorem pairs_hex : ∀ d : List UInt8, pairsV (hexT d) = d
  | [] => rfl
  | x :: r => by
    show pairsV (hexB (x.toNat / 16) :: hexB (x.toNat % 16) :: hexT r) = _
    rw [pairsV, pair_hex, pairs_hex r]
theorem hex_pairs : ∀ D : List UInt8, D.length % 2 = 0 → (∀ c ∈ D, among dig16 c = true) → hexT (pairsV D) = D
  | [], _, _ => rfl
  | [_], h, _ => by simp at h
  | c :: d :: r, h, hd => by
    rw [pairsV]
    show hexB ((pairV c d).toNat / 16) :: hexB ((pairV c d).toNat % 16) :: hexT (pairsV r) = _
    obtain ⟨e1, e2⟩ := hex_back c (among16 c (hd c (by simp))) d (among16 d (hd d (by simp)))
    rw [e1, e2, hex_pairs r (by simp only [List.length_cons] at h; omega) (fun x hx => hd x (by simp [hx]))]
theorem hexT_length : ∀ d : List UInt8, (hexT d).length = 2 * d.length
  | [] => rfl
  | x :: r => by
    show (hexB (x.toNat / 16) :: hexB (x.toNat % 16) :: hexT r).length = _
    rw [List.length_cons, List.length_cons, hexT_length r, List.length_cons]; omega
theorem hexT_among : ∀ d : List UInt8, ∀ c ∈ hexT d, among dig16 c = true
  | [], c, h => by simp [hexT] at h
  | x :: r, c, h => by
    have h' : c ∈ hexB (x.toNat / 16) :: hexB (x.toNat % 16) :: hexT r := h
    simp only [List.mem_cons] at h'
    rcases h' with rfl | rfl | h'
    · exact (hex_among x).1
    · exact (hex_among x).2
    · exact hexT_among r c h'

/-- What is left of a text. -/
def left (s : ByteArray) (a : Nat) : List UInt8 := s.data.toList.drop a
theorem left_app {s : ByteArray} {a : Nat} {x y : List UInt8} (h : left s a = x ++ y) : left s (a + x.length) = y := by
  unfold left at *
  rw [← List.drop_drop, h, List.drop_left]
theorem left_length (s : ByteArray) (a : Nat) : (left s a).length = s.size - a := by simp [left]
theorem left_at {s : ByteArray} {a : Nat} (h : a < s.size) : left s a = s[a] :: left s (a + 1) := drop_at s a h
theorem left_end {s : ByteArray} {a : Nat} (h : ¬ a < s.size) : left s a = [] := List.drop_eq_nil_of_le (by simp; omega)
theorem eats_yes {s : ByteArray} {a : Nat} {c : UInt8} {r : List UInt8} (h : left s a = c :: r) : eats s a 0 c.toNat = true ∧ left s (a + 1) = r := by
  have hl : a < s.size := by
    rcases Nat.lt_or_ge a s.size with h' | h'
    · exact h'
    · rw [left_end (by omega)] at h; simp at h
  rw [left_at hl] at h
  simp only [List.cons.injEq] at h
  exact ⟨by simp [eats, hl, h.1], h.2⟩
theorem eats_no {s : ByteArray} {a c : Nat} (h : ∀ d r, left s a = d :: r → d.toNat ≠ c) : eats s a 0 c = false := by
  unfold eats
  by_cases hl : a < s.size
  · have := h _ _ (left_at hl)
    simp [hl, this]
  · simp [hl]
theorem eats_inv {s : ByteArray} {a : Nat} {bad : Int} {c : UInt8} (h : eats s a bad c.toNat = true) : left s a = c :: left s (a + 1) := by
  obtain ⟨_, hl⟩ := eats_bad h
  have h2 : s[a].toNat = c.toNat := by
    simp only [eats, hl, dif_pos, Bool.and_eq_true, decide_eq_true_eq] at h
    exact h.2
  rw [left_at hl, UInt8.toNat_inj.1 h2]

theorem take_takeWhile {p : UInt8 → Bool} (l : List UInt8) : l.take (l.takeWhile p).length = l.takeWhile p :=
  (List.prefix_iff_eq_take.1 (List.takeWhile_prefix p)).symm
theorem run_ext (s : ByteArray) (of : List UInt8) (a : Nat) : (s.extract a (a + run_ s of a)).data.toList = (left s a).takeWhile (among of) := by
  have e : (s.extract a (a + run_ s of a)).data.toList = (left s a).take (run_ s of a) := by
    simp [left, List.take_drop]
  rw [e]
  exact take_takeWhile (left s a)
theorem run_split (s : ByteArray) (of : List UInt8) (a : Nat) : left s a = (left s a).takeWhile (among of) ++ left s (a + run_ s of a) := by
  have h1 := List.take_append_drop (run_ s of a) (left s a)
  have h2 : (left s a).take (run_ s of a) = (left s a).takeWhile (among of) := take_takeWhile (left s a)
  have h3 : (left s a).drop (run_ s of a) = left s (a + run_ s of a) := by simp [left, List.drop_drop]
  rw [h2, h3] at h1
  exact h1.symm
theorem run_len (s : ByteArray) (of : List UInt8) (a : Nat) : run_ s of a = ((left s a).takeWhile (among of)).length := rfl
theorem takeWhile_mem {p : UInt8 → Bool} : ∀ (l : List UInt8), ∀ c ∈ l.takeWhile p, p c = true
  | [], c, h => by simp at h
  | x :: r, c, h => by
    rw [List.takeWhile_cons] at h
    split at h
    · rename_i hx
      rcases List.mem_cons.1 h with rfl | h
      · exact hx
      · exact takeWhile_mem r c h
    · simp at h
theorem takeWhile_stop {p : UInt8 → Bool} : ∀ (x y : List UInt8), (∀ c ∈ x, p c = true) → (∀ c r, y = c :: r → p c = false) → (x ++ y).takeWhile p = x
  | [], [], _, _ => rfl
  | [], c :: r, _, h => by rw [List.nil_append, List.takeWhile_cons, if_neg (by rw [h c r rfl]; simp)]
  | x :: r, y, hx, h => by
    rw [List.cons_append, List.takeWhile_cons, if_pos (hx x (by simp)), takeWhile_stop r y (fun c hc => hx c (by simp [hc])) h]

mutual
/-- Its numbers fit. -/
def Tr.nums : Tr → Prop
  | .node n _ _ ks => n < 18446744073709551616 ∧ Tr.numss ks
def Tr.numss : List Tr → Prop
  | [] => True
  | t :: r => t.nums ∧ Tr.numss r
end
mutual
theorem Tr.ok_nums : ∀ t : Tr, t.ok → t.nums
  | .node n b d ks, h => by rw [Tr.ok] at h; rw [Tr.nums]; exact ⟨h.1, Tr.oks_nums ks h.2.2.2⟩
theorem Tr.oks_nums : ∀ ks : List Tr, Tr.oks ks → Tr.numss ks
  | [], _ => by rw [Tr.numss]; trivial
  | t :: r, h => by rw [Tr.oks] at h; rw [Tr.numss]; exact ⟨Tr.ok_nums t h.1, Tr.oks_nums r h.2⟩
end
theorem digs_head_dig (n : Nat) (x c : UInt8) (y r : List UInt8) (h : digs n ++ y = c :: r) : isDig c = true := by
  have h1 := digs_ne n
  have h2 := digs_dig n
  cases hd : digs n with
  | nil => exact absurd hd h1
  | cons e l =>
    rw [hd] at h h2
    simp only [List.cons_append, List.cons.injEq] at h
    rw [← h.1]
    exact h2 e (by simp)
/-- What a text of parts may be followed by. -/
def Ends (r : List UInt8) : Prop := ∀ c r', r = c :: r' → c = 44 ∨ c = 41

/-- The parts, read. -/
theorem rkids_texts (s : ByteArray) (f : Nat) (r : List UInt8) (ih : ∀ (t : Tr) (a : Nat) (r : List UInt8), t.nums → t.deep ≤ f → left s a = t.text ++ r → Ends r → rtree s f a 0 = (t, a + t.text.length, 0)) :
    ∀ (ks : List Tr) (k : Tr) (N a : Nat), ks.length + 1 ≤ N → Tr.numss (k :: ks) → Tr.deeps (k :: ks) ≤ f → left s a = k.text ++ (Tr.texts false ks ++ 41 :: r) →
      rkids (rtree s f) s N true a 0 = (k :: ks, a + (k.text ++ Tr.texts false ks).length, 0)
  | [], k, 0, a, hN, _, _, _ => by simp at hN
  | [], k, N + 1, a, hN, hn, hd, hl => by
    rw [Tr.numss] at hn
    rw [Tr.deeps] at hd
    have hk := ih k a _ hn.1 (by omega) hl (by intro c r' e; simp only [Tr.texts, List.nil_append, List.cons.injEq] at e; exact .inr e.1.symm)
    have hl2 := left_app hl
    rw [rkids, if_pos ⟨rfl, rfl⟩, hk]
    have he : eats s (a + k.text.length) 0 44 = false := eats_no (fun d r' e => by
      rw [hl2] at e; simp only [Tr.texts, List.nil_append, List.cons.injEq] at e; rw [← e.1]; decide)
    simp only [he, step]
    cases N <;> simp [rkids, Tr.texts]
  | k' :: ks, k, 0, a, hN, _, _, _ => by simp at hN
  | k' :: ks, k, N + 1, a, hN, hn, hd, hl => by
    rw [Tr.numss] at hn
    rw [Tr.deeps] at hd
    have hk := ih k a _ hn.1 (by omega) hl (by intro c r' e; simp only [Tr.texts, List.cons_append, List.cons.injEq] at e; left; have := e.1.symm; simpa using this)
    have hl2 := left_app hl
    have hl3 : left s (a + k.text.length) = 44 :: (k'.text ++ (Tr.texts false ks ++ 41 :: r)) := by rw [hl2]; simp [Tr.texts]
    obtain ⟨he, hl4⟩ := eats_yes hl3
    have he' : eats s (a + k.text.length) 0 44 = true := he
    rw [rkids, if_pos ⟨rfl, rfl⟩, hk]
    simp only [he', step, if_true]
    rw [rkids_texts s f r ih ks k' N (a + k.text.length + 1) (by simp only [List.length_cons] at hN; omega) hn.2 (by omega) hl4]
    simp [Tr.texts]; omega

theorem rtree_text (s : ByteArray) : ∀ (f : Nat) (t : Tr) (a : Nat) (r : List UInt8), t.nums → t.deep ≤ f → left s a = t.text ++ r → Ends r → rtree s f a 0 = (t, a + t.text.length, 0)
  | 0, .node n b d ks, a, r, _, hd, _, _ => by rw [Tr.deep] at hd; omega
  | f + 1, .node n b d ks, a, r, hn, hd, hl, hr => by
    have ih := rtree_text s f
    rw [Tr.nums] at hn
    rw [Tr.deep] at hd
    rw [Tr.text, headT] at hl
    obtain ⟨K, hK⟩ : ∃ K, (if ks = [] then [] else Tr.texts true ks ++ [41]) = K := ⟨_, rfl⟩
    rw [hK] at hl
    have hKh : ∀ c r', K ++ r = c :: r' → c = 40 ∨ c = 44 ∨ c = 41 := by
      intro c r' e
      cases ks with
      | nil => rw [if_pos rfl] at hK; subst hK; exact .inr (hr c r' e)
      | cons k ks => rw [if_neg (by simp), Tr.texts] at hK; subst hK; simp at e; exact .inl e.1.symm
    have hDh : ∀ c r', dataT d ++ (K ++ r) = c :: r' → c = 58 ∨ c = 40 ∨ c = 44 ∨ c = 41 := by
      intro c r' e
      unfold dataT at e
      split at e
      · exact .inr (hKh c r' e)
      · simp only [List.cons_append, List.cons.injEq] at e; exact .inl e.1.symm
    -- the low line
    have h1 : eats s a 0 95 = b ∧ left s (step s a 0 95) = digs n ++ (dataT d ++ (K ++ r)) ∧ step s a 0 95 = a + (if b = true then [95] else ([] : List UInt8)).length := by
      cases b with
      | false =>
        have hl' : left s a = digs n ++ (dataT d ++ (K ++ r)) := by rw [hl]; simp
        have he : eats s a 0 95 = false := eats_no (fun c r' e => by
          rw [hl'] at e
          have := digs_head_dig n 0 c _ r' e
          have := isDig_iff this
          omega)
        exact ⟨he, by rw [step, if_neg (by rw [he]; simp)]; exact hl', by rw [step, if_neg (by rw [he]; simp)]; simp⟩
      | true =>
        have hl' : left s a = (95 : UInt8) :: (digs n ++ (dataT d ++ (K ++ r))) := by rw [hl]; simp
        obtain ⟨he, hl2⟩ := eats_yes hl'
        have he' : eats s a 0 95 = true := he
        exact ⟨he', by rw [step, if_pos he']; exact hl2, by rw [step, if_pos he']; simp⟩
    obtain ⟨e1, l1, p1⟩ := h1
    obtain ⟨a1, ha1⟩ : ∃ a1, step s a 0 95 = a1 := ⟨_, rfl⟩
    rw [ha1] at l1 p1
    -- the number
    have ht1 : (left s a1).takeWhile (among dig10) = digs n := by
      rw [l1]
      refine takeWhile_stop _ _ (fun c hc => by rw [among10]; exact digs_dig n c hc) (fun c r' e => ?_)
      rcases hDh c r' e with rfl | rfl | rfl | rfl <;> decide +kernel
    have hr1 : run_ s dig10 a1 = (digs n).length := by rw [run_len, ht1]
    have hnum : numOf s a1 = ((n : Int), 0) := by
      unfold numOf
      rw [run_ext, ht1]
      exact parseS_digs n hn.1
    have l2 : left s (a1 + run_ s dig10 a1) = dataT d ++ (K ++ r) := by rw [hr1]; exact left_app l1
    obtain ⟨a2, ha2⟩ : ∃ a2, a1 + run_ s dig10 a1 = a2 := ⟨_, rfl⟩
    rw [ha2] at l2
    have htail : ∀ a3, left s a3 = K ++ r → rtail (rtree s f) s n b d a3 0 = (.node n b d ks, a3 + K.length, 0) := by
      intro a3 l3
      unfold rtail
      cases ks with
      | nil =>
        rw [if_pos rfl] at hK
        subst hK
        have he : eats s a3 0 40 = false := eats_no (fun c r' e => by
          rw [l3] at e
          rcases hr c r' e with rfl | rfl <;> decide)
        rw [if_neg (by rw [he]; simp)]
        simp
      | cons k ks =>
        rw [if_neg (by simp), Tr.texts] at hK
        have l3' : left s a3 = (40 : UInt8) :: (k.text ++ (Tr.texts false ks ++ 41 :: r)) := by rw [l3, ← hK]; simp
        obtain ⟨he, l4⟩ := eats_yes l3'
        have he' : eats s a3 0 40 = true := he
        rw [if_pos he']
        have hks : ks.length + 1 ≤ 2 * s.size + 3 := by
          have h1 : ks.length ≤ (left s (a3 + 1)).length := by
            rw [l4]
            have : ∀ (g : Bool) (l : List Tr), l.length ≤ (Tr.texts g l).length := by
              intro g l
              induction l generalizing g with
              | nil => simp
              | cons t l ih => rw [Tr.texts]; have := ih false; simp only [List.length_cons, List.length_append]; omega
            have := this false ks
            simp only [List.length_append]; omega
          rw [left_length] at h1; omega
        rw [rkids_texts s f r ih ks k (2 * s.size + 3) (a3 + 1) hks hn.2 (by omega) l4]
        have l5 : left s (a3 + 1 + (k.text ++ Tr.texts false ks).length) = 41 :: r := left_app (by rw [l4]; simp)
        obtain ⟨he4, _⟩ := eats_yes l5
        have he5 : eats s (a3 + 1 + (k.text ++ Tr.texts false ks).length) 0 41 = true := he4
        simp only [step, he5, if_true]
        rw [← hK]
        simp; omega
    have hlen : ∀ a3, a3 = a2 + (dataT d).length → a3 + K.length = a + (Tr.node n b d ks).text.length := by
      intro a3 e
      rw [Tr.text, headT, hK]
      simp only [List.length_append]
      omega
    by_cases hd0 : d = []
    · subst hd0
      have he : eats s a2 0 58 = false := eats_no (fun c r' e => by
        rw [l2] at e
        rcases hKh c r' e with rfl | rfl | rfl <;> decide)
      rw [rtree_none (n := n) (a2 := a2) (er := 0) (bad1 := 0) ⟨by rw [ha1]; exact hnum, by rw [ha1]; exact ha2, by simp⟩ he, e1, htail a2 l2, hlen a2 (by simp [dataT])]
    · have l2' : left s a2 = (58 : UInt8) :: (hexT d ++ (K ++ r)) := by rw [l2, dataT, if_neg hd0]; simp
      obtain ⟨he, l3⟩ := eats_yes l2'
      have he' : eats s a2 0 58 = true := he
      have ht2 : (left s (a2 + 1)).takeWhile (among dig16) = hexT d := by
        rw [l3]
        refine takeWhile_stop _ _ (hexT_among d) (fun c r' e => ?_)
        rcases hKh c r' e with rfl | rfl | rfl <;> decide +kernel
      have hr2 : run_ s dig16 (a2 + 1) = 2 * d.length := by rw [run_len, ht2, hexT_length]
      have hdl : 0 < d.length := List.length_pos_iff.2 hd0
      rw [rtree_data (n := n) (a2 := a2) (er := 0) (bad1 := 0) ⟨by rw [ha1]; exact hnum, by rw [ha1]; exact ha2, by simp⟩ he' (by omega), e1, run_ext, ht2, pairs_hex]
      have l4 : left s (a2 + 1 + run_ s dig16 (a2 + 1)) = K ++ r := by rw [hr2, ← hexT_length]; exact left_app l3
      rw [htail _ l4, hlen _ (by rw [hr2, dataT, if_neg hd0, List.length_cons, hexT_length]; omega)]

/-- What is read is written as the text. -/
theorem rkids_back (s : ByteArray) (f : Nat) (ih : ∀ (a : Nat) (t : Tr) (b : Nat), a ≤ s.size → rtree s f a 0 = (t, b, 0) → left s a = t.text ++ left s b ∧ t.deep ≤ f ∧ t.nums) :
    ∀ (N a : Nat) (ks : List Tr) (b : Nat), a ≤ s.size → s.size - a + 1 ≤ N → rkids (rtree s f) s N true a 0 = (ks, b, 0) →
      ∃ k r, ks = k :: r ∧ left s a = k.text ++ (Tr.texts false r ++ left s b) ∧ Tr.deeps ks ≤ f ∧ Tr.numss ks
  | 0, a, ks, b, ha, hN, h => by omega
  | N + 1, a, ks, b, ha, hN, h => by
    rw [rkids, if_pos ⟨rfl, rfl⟩] at h
    obtain ⟨⟨kt, kat, kbt⟩, hkr⟩ : ∃ r, rtree s f a 0 = r := ⟨_, rfl⟩
    have hbd := rtree_bd s f a 0 ha
    rw [hkr] at h hbd
    obtain ⟨b1, b2, _, b4⟩ := hbd
    simp only [Prod.mk.injEq] at h b1 b2 b4
    obtain ⟨h1, h2⟩ := h
    have hk0 : kbt = 0 := by
      by_cases hk : kbt = 0
      · exact hk
      · exfalso
        have := (rkids_bd (rtree s f) s (fun a bad h => rtree_bd s f a bad h) N (eats s kat kbt 44) (step s kat kbt 44) kbt (step_bd s kat kbt 44 b2).2).2.2 hk
        rw [h2] at this
        exact hk this.symm
    subst hk0
    have b5 := b4 rfl
    obtain ⟨i1, i2, i3⟩ := ih a kt kat ha hkr
    cases he : eats s kat 0 44 with
    | false =>
      have hst : step s kat 0 44 = kat := by rw [step, if_neg (by rw [he]; simp)]
      have hz : rkids (rtree s f) s N false kat 0 = ([], kat, 0) := by cases N <;> simp [rkids]
      rw [he, hst, hz] at h1 h2
      simp only [Prod.mk.injEq, and_true] at h1 h2
      subst h2
      subst h1
      refine ⟨kt, [], rfl, by rw [i1]; simp [Tr.texts], ?_, ?_⟩
      · rw [Tr.deeps, Tr.deeps]; omega
      · rw [Tr.numss, Tr.numss]; exact ⟨i3, trivial⟩
    | true =>
      have hst : step s kat 0 44 = kat + 1 := by rw [step, if_pos he]
      obtain ⟨_, hlt⟩ := eats_bad he
      rw [he, hst] at h1 h2
      obtain ⟨⟨ks', b'⟩, hrk⟩ : ∃ r, rkids (rtree s f) s N true (kat + 1) 0 = r := ⟨_, rfl⟩
      rw [hrk] at h1 h2
      simp only at h1 h2
      subst h2
      obtain ⟨k', r', e, l, d, n⟩ := rkids_back s f ih N (kat + 1) ks' b (by omega) (by omega) hrk
      have l1 := eats_inv (c := 44) he
      refine ⟨kt, _, h1.symm, ?_, ?_, ?_⟩
      · rw [i1, l1, l, e]; simp [Tr.texts]
      · rw [← h1, Tr.deeps]; omega
      · rw [← h1, Tr.numss]; exact ⟨i3, n⟩
theorem rtail_back (s : ByteArray) (f : Nat) (ih : ∀ (a : Nat) (t : Tr) (b : Nat), a ≤ s.size → rtree s f a 0 = (t, b, 0) → left s a = t.text ++ left s b ∧ t.deep ≤ f ∧ t.nums) (n : Nat) (bl : Bool) (d : List UInt8) (a : Nat) (bad : Int)
    (t : Tr) (b : Nat) (ha : a ≤ s.size) (h : rtail (rtree s f) s n bl d a bad = (t, b, 0)) :
    bad = 0 ∧ ∃ ks, t = .node n bl d ks ∧ left s a = (if ks = [] then [] else Tr.texts true ks ++ [41]) ++ left s b ∧ Tr.deeps ks ≤ f ∧ Tr.numss ks := by
  have hbad : bad = 0 := by
    by_cases hb : bad = 0
    · exact hb
    · have := (rtail_bd (rtree s f) s (fun a bad h => rtree_bd s f a bad h) n bl d a bad ha).2.2 hb
      rw [h] at this
      exact absurd this.symm hb
  subst hbad
  refine ⟨rfl, ?_⟩
  unfold rtail at h
  cases he : eats s a 0 40 with
  | false =>
    rw [if_neg (by rw [he]; simp)] at h
    simp only [Prod.mk.injEq, and_true] at h
    obtain ⟨rfl, rfl⟩ := h
    exact ⟨[], rfl, by simp, by rw [Tr.deeps]; omega, by rw [Tr.numss]; trivial⟩
  | true =>
    rw [if_pos he] at h
    obtain ⟨_, hlt⟩ := eats_bad he
    obtain ⟨⟨ks, kb, ke⟩, hkr⟩ : ∃ r, rkids (rtree s f) s (2 * s.size + 3) true (a + 1) 0 = r := ⟨_, rfl⟩
    rw [hkr] at h
    simp only [Prod.mk.injEq] at h
    obtain ⟨rfl, h2, h3⟩ := h
    cases he2 : eats s kb ke 41 with
    | false =>
      rw [if_neg (by rw [he2]; simp)] at h3
      unfold worse at h3
      split at h3
      · simp at h3
      · rename_i h0; exact absurd h3 h0
    | true =>
      rw [if_pos he2] at h3
      subst h3
      rw [step, if_pos he2] at h2
      subst h2
      obtain ⟨k, r, rfl, l, dd, nn⟩ := rkids_back s f ih (2 * s.size + 3) (a + 1) ks kb (by omega) (by omega) hkr
      refine ⟨_, rfl, ?_, dd, nn⟩
      rw [if_neg (by simp), eats_inv (c := 40) he, l, eats_inv (c := 41) he2]
      simp [Tr.texts]
theorem rtree_back (s : ByteArray) : ∀ (f a : Nat) (t : Tr) (b : Nat), a ≤ s.size → rtree s f a 0 = (t, b, 0) → left s a = t.text ++ left s b ∧ t.deep ≤ f ∧ t.nums
  | 0, a, t, b, ha, h => by
    rw [rtree] at h
    simp [worse] at h
  | f + 1, a, t, b, ha, h => by
    have ih := rtree_back s f
    obtain ⟨a1, ha1⟩ : ∃ a1, step s a 0 95 = a1 := ⟨_, rfl⟩
    obtain ⟨n, er, hq⟩ : ∃ (n : Nat) (er : Int), numOf s a1 = ((n : Int), er) := ⟨(numOf s a1).1.toNat, (numOf s a1).2, Prod.ext (Int.toNat_of_nonneg (parseS_nn _)).symm rfl⟩
    obtain ⟨a2, ha2⟩ : ∃ a2, a1 + run_ s dig10 a1 = a2 := ⟨_, rfl⟩
    obtain ⟨bad1, hb1⟩ : ∃ bad1, (if er = 0 then (0 : Int) else worse 0 er) = bad1 := ⟨_, rfl⟩
    have hQ : numOf s (step s a 0 95) = ((n : Int), er) ∧ step s a 0 95 + run_ s dig10 (step s a 0 95) = a2 ∧ (if er = 0 then (0 : Int) else worse 0 er) = bad1 := ⟨by rw [ha1]; exact hq, by rw [ha1]; exact ha2, hb1⟩
    have hs1 := (step_bd s a 0 95 ha).2
    rw [ha1] at hs1
    have hs2 := run_le s dig10 a1 hs1
    rw [ha2] at hs2
    have hb0 : bad1 = 0 → er = 0 := by
      intro e
      rw [← hb1] at e
      split at e
      · assumption
      · rename_i h0; simp [worse] at e; exact absurd e h0
    have l0 : left s a = (if eats s a 0 95 = true then [95] else []) ++ left s a1 := by
      cases he : eats s a 0 95 with
      | false => rw [step, if_neg (by rw [he]; simp)] at ha1; subst ha1; simp
      | true => rw [step, if_pos he] at ha1; subst ha1; rw [if_pos rfl]; exact eats_inv (c := 95) he
    have l1 : er = 0 → n < 18446744073709551616 ∧ left s a1 = digs n ++ left s a2 := by
      intro e
      subst e
      have e1 : (s.extract a1 (a1 + run_ s dig10 a1)).data.toList = (left s a1).takeWhile (among dig10) := run_ext s dig10 a1
      unfold numOf at hq
      rw [e1] at hq
      obtain ⟨h1, h2⟩ := parseS_back hq
      refine ⟨h1, ?_⟩
      rw [h2, ← ha2]
      exact run_split s dig10 a1
    have fin : ∀ (d : List UInt8) (a3 : Nat), left s a2 = dataT d ++ left s a3 → a3 ≤ s.size → rtail (rtree s f) s n (eats s a 0 95) d a3 bad1 = (t, b, 0) → left s a = t.text ++ left s b ∧ t.deep ≤ f + 1 ∧ t.nums := by
      intro d a3 l3 h3 hr
      obtain ⟨rfl, ks, rfl, l4, dd, nn⟩ := rtail_back s f ih n _ d a3 bad1 t b h3 hr
      obtain ⟨hn, l2⟩ := l1 (hb0 rfl)
      refine ⟨?_, by rw [Tr.deep]; omega, by rw [Tr.nums]; exact ⟨hn, nn⟩⟩
      rw [l0, l2, l3, l4, Tr.text, headT]
      simp only [List.append_assoc]
    cases he : eats s a2 bad1 58 with
    | false =>
      rw [rtree_none hQ he] at h
      exact fin [] a2 (by simp [dataT]) hs2 h
    | true =>
      obtain ⟨_, hlt⟩ := eats_bad he
      have hr2 := run_le s dig16 (a2 + 1) (by omega)
      by_cases hm : run_ s dig16 (a2 + 1) = 0 ∨ run_ s dig16 (a2 + 1) % 2 ≠ 0
      · rw [rtree_bad hQ he hm] at h
        simp only [Prod.mk.injEq] at h
        exact absurd h.2.2 (worse_ne (by decide))
      · rw [rtree_data hQ he hm, run_ext] at h
        have hlen : ((left s (a2 + 1)).takeWhile (among dig16)).length = run_ s dig16 (a2 + 1) := rfl
        refine fin _ _ ?_ (by omega) h
        have hp := hex_pairs ((left s (a2 + 1)).takeWhile (among dig16)) (by omega) (takeWhile_mem _)
        have hne : pairsV ((left s (a2 + 1)).takeWhile (among dig16)) ≠ [] := by
          intro e
          have := pairsV_len ((left s (a2 + 1)).takeWhile (among dig16))
          rw [e, List.length_nil] at this
          omega
        rw [dataT, if_neg hne, hp, eats_inv (c := 58) he, List.cons_append]
        rw [← run_split s dig16 (a2 + 1)]

/-- The errors there are. -/
def Err (e : Int) : Prop := e = 0 ∨ e = 5 ∨ e = 40 ∨ e = 6
theorem Err.worse {b e : Int} (h : Err b) (h' : Err e) : Err (worse b e) := by
  unfold Go.Proofs.Ytdogiobppeemiaa.worse; split <;> assumption
theorem rkids_err (rt : Nat → Int → Tr × Nat × Int) (s : ByteArray) (hrt : ∀ a bad, Err bad → Err (rt a bad).2.2) : ∀ (n : Nat) (more : Bool) (a : Nat) (bad : Int), Err bad → Err (rkids rt s n more a bad).2.2
  | 0, _, _, _, h => h
  | n + 1, more, a, bad, h => by
    rw [rkids]
    split
    · exact rkids_err rt s hrt n _ _ _ (hrt a bad h)
    · exact h
theorem rtail_err (rt : Nat → Int → Tr × Nat × Int) (s : ByteArray) (hrt : ∀ a bad, Err bad → Err (rt a bad).2.2) (n : Nat) (bl : Bool) (d : List UInt8) (a : Nat) (bad : Int) (h : Err bad) : Err (rtail rt s n bl d a bad).2.2 := by
  unfold rtail
  split
  · simp only
    have := rkids_err rt s hrt (2 * s.size + 3) true (a + 1) bad h
    split
    · exact this
    · exact this.worse (by simp [Err])
  · exact h
theorem rtree_err (s : ByteArray) : ∀ (f a : Nat) (bad : Int), Err bad → Err (rtree s f a bad).2.2
  | 0, a, bad, h => by rw [rtree]; exact h.worse (by simp [Err])
  | f + 1, a, bad, h => by
    have ih := rtree_err s f
    rw [rtree]
    simp only
    have hE : Err (numOf s (step s a bad 95)).2 := by
      rcases parseS_errs (s.extract (step s a bad 95) (step s a bad 95 + run_ s dig10 (step s a bad 95))).data.toList with e | e | e
      · exact .inl e
      · exact .inr (.inl e)
      · exact .inr (.inr (.inl e))
    have hb : Err (if (numOf s (step s a bad 95)).2 = 0 then bad else worse bad (numOf s (step s a bad 95)).2) := by
      split
      · exact h
      · exact h.worse hE
    generalize (if (numOf s (step s a bad 95)).2 = 0 then bad else worse bad (numOf s (step s a bad 95)).2) = bad1 at hb ⊢
    split
    · split
      · exact hb.worse (by simp [Err])
      · exact rtail_err _ s ih _ _ _ _ _ hb
    · exact rtail_err _ s ih _ _ _ _ _ hb
end Go.Proofs.Ytdogiobppeemiaa
