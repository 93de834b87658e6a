/- The law TreeParses: the walk. -/
import Derived.Test.YtdogiobppeemiaaTx
namespace Go.Proofs.Ytdogiobppeemiaa
set_option linter.unusedSimpArgs false
set_option linter.unusedVariables false
set_option linter.unnecessarySimpa false
open Go.RowKit

theorem digs_pos (n : Nat) : 1 ≤ (digs n).length := by
  have := digs_ne n
  rcases h : digs n with _ | ⟨c, r⟩
  · exact absurd h this
  · simp
mutual
/-- A tree of a short text is small. -/
theorem Tr.of_text : ∀ t : Tr, t.nums → t.text.length ≤ 1000000 → t.ok ∧ t.small ∧ t.size ≤ t.text.length
  | .node n b d ks, hn, hl => by
    rw [Tr.nums] at hn
    rw [Tr.text, headT] at hl ⊢
    have h1 := digs_pos n
    have h2 : 2 * d.length ≤ (dataT d).length := by
      unfold dataT
      split
      · rename_i h; subst h; simp
      · rw [List.length_cons, hexT_length]; omega
    simp only [List.length_append] at hl ⊢
    have h3 : (Tr.texts true ks).length ≤ (if ks = [] then [] else Tr.texts true ks ++ [41]).length := by
      split
      · rename_i h; subst h; simp [Tr.texts]
      · simp
    obtain ⟨k1, k2, k3, k4⟩ := Tr.of_texts true ks hn.2 (by omega)
    rw [Tr.ok, Tr.small, Tr.size]
    refine ⟨⟨hn.1, by unfold maxLen; omega, by unfold maxLen; omega, k1⟩, ⟨by omega, by omega, k2⟩, by omega⟩
theorem Tr.of_texts : ∀ (f : Bool) (ks : List Tr), Tr.numss ks → (Tr.texts f ks).length ≤ 1000000 → Tr.oks ks ∧ Tr.smalls ks ∧ Tr.sizes ks ≤ (Tr.texts f ks).length ∧ ks.length ≤ (Tr.texts f ks).length
  | f, [], _, _ => ⟨by rw [Tr.oks]; trivial, by rw [Tr.smalls]; trivial, by simp [Tr.sizes], by simp⟩
  | f, t :: r, hn, hl => by
    rw [Tr.numss] at hn
    rw [Tr.texts] at hl ⊢
    simp only [List.length_cons, List.length_append] at hl ⊢
    obtain ⟨h1, h2, h3⟩ := Tr.of_text t hn.1 (by omega)
    obtain ⟨k1, k2, k3, k4⟩ := Tr.of_texts false r hn.2 (by omega)
    rw [Tr.oks, Tr.smalls, Tr.sizes]
    exact ⟨⟨h1, k1⟩, ⟨h2, k2⟩, by omega, by omega⟩
end

theorem zero_ok : zeroTr.ok := by simp [zeroTr, Tr.ok, Tr.oks]
theorem parse_as {s : ByteArray} {t : Tr} {er : Int} (h : parse s = (t, er)) (hs : s.size ≤ 1048576) (w : World) : Calls Try.prog 10 #[.string s] w fun e w' =>
    ∃ dv kv kxs, e = .returned (.tuple #[.agg #[.int .u64 (t.num : Int), .bool t.blank, dv, kv], .int .i64 er]) ∧ Owned w.heap.size t dv kv kxs w' ∧ Below w.heap.size w w' := by
  refine (parse_any s w hs).mono ?_
  rintro e w' ⟨dv, kv, kxs, he, ho, hb⟩
  rw [h] at he ho
  exact ⟨dv, kv, kxs, he, ho, hb⟩
set_option maxRecDepth 8000 in
set_option maxHeartbeats 3200000 in
theorem TreeParses_walk (s : ByteArray) (hs : s.size ≤ maxLen) (w : World) : Calls Try.prog 4 #[.string s] w fun e w' => e = .returned (.bool true) ∧ Below w.heap.size w w' := by
  by_cases hlong : 2000 < s.size
  · have hlt : (2000 : Int) < (s.size : Int) := by omega
    go_enter Try.func4, Try.ntmps4
    go_wp2_with fail
    refine (texts_any _).mono ?_
    rintro e w1 ⟨rfl, hb1⟩
    have HB1 := Lib.hid hb1
    clear hb1
    go_wp2_with fail
    go_ret
    exact ⟨rfl, HB1.out⟩
  · have hle : (s.size : Int) ≤ 2000 := by omega
    obtain ⟨⟨t, er⟩, hp⟩ : ∃ r, parse s = r := ⟨_, rfl⟩
    have hpa := parse_as hp (by omega)
    have HPA := Lib.hid hpa
    clear hpa
    by_cases he : er = 0
    · subst he
      obtain ⟨b1, b2, b3⟩ := parse_back hp
      obtain rfl : s = ⟨t.text.toArray⟩ := by cases s; simp only [ByteArray.mk.injEq]; rw [← b1]
      have hsz : (⟨t.text.toArray⟩ : ByteArray).size = t.text.length := by simp [ByteArray.size]
      have htl : t.text.length ≤ 2000 := by omega
      obtain ⟨k1, k2, k3⟩ := Tr.of_text t b3 (by omega)
      have hd : (t.deep : Int) ≤ 400 := by omega
      have HK := Lib.hid (And.intro k1 (And.intro k2 k3))
      have HTL := Lib.hid htl
      clear k1 k2 k3 b1 b2 b3 hp htl
      go_enter Try.func4, Try.ntmps4
      go_wp2_with fail
      refine (texts_any _).mono ?_
      rintro e w1 ⟨rfl, hb1⟩
      have HB1 := Lib.hid hb1
      clear hb1
      go_wp2_with fail
      refine (HPA.out _).mono ?_
      rintro e w2 ⟨dv, kv, kxs, rfl, hown, hb2⟩
      have ht := hown.at_
      obtain ⟨ta, tc, ua, uc, rfl, rfl, _, _, _, _⟩ := ht.form
      have hV := TreeVar.new ht
      obtain ⟨q0, q1, q2, q3⟩ := hV.cells
      have HV := Lib.hid hV
      have HB2 := Lib.hid (below_al (below_tr HB1.out hb2) (.cells #[.int .u64 (t.num : Int), .bool t.blank, .slice ta t.data.length tc, .slice ua t.kids.length uc] 26 (0, 0)))
      clear hown hb2 ht hV
      go_wp2_with fail
      clear q0 q1 q2 q3
      refine (text_any t _ _ _ HK.out.1 HV.out.2.2 (by have := HTL.out; omega)).mono ?_
      rintro e w3 ⟨rfl, hb3⟩
      have hV3 := HV.out.up hb3
      obtain ⟨q0, q1, q2, q3⟩ := hV3.cells
      have HV3 := Lib.hid hV3
      have HB3 := Lib.hid (below_tr HB2.out hb3)
      clear hV3 hb3
      go_wp2_with fail
      refine (depth_any t.size t _ _ _ (Nat.le_refl _) (by have := HK.out.2.2; have := HTL.out; omega) HV3.out.2.2).mono ?_
      rintro e w4 ⟨rfl, hb4⟩
      have HB4 := Lib.hid (below_tr HB3.out hb4)
      clear hb4
      go_wp2_with fail
      go_ret
      exact ⟨rfl, HB4.out⟩
    · obtain ⟨rfl, h5⟩ := parse_err hp he
      have heb : (er != 0) = true := by rw [bne_iff_ne]; exact he
      have HE := Lib.hid (And.intro h5 he)
      clear he h5 hp
      go_enter Try.func4, Try.ntmps4
      go_wp2_with fail
      refine (texts_any _).mono ?_
      rintro e w1 ⟨rfl, hb1⟩
      have HB1 := Lib.hid hb1
      clear hb1
      go_wp2_with fail
      refine (HPA.out _).mono ?_
      rintro e w2 ⟨dv, kv, kxs, he, hown, hb2⟩
      have ht := hown.at_
      obtain ⟨ta, tc, ua, uc, h1, h2, _, _, _, _⟩ := ht.form
      subst h1 h2
      obtain rfl : e = .returned (.tuple #[.agg #[.int .u64 0, .bool false, .slice ta 0 tc, .slice ua 0 uc], .int .i64 er]) := he
      have hV : TreeVar w2.heap.size zeroTr (.slice ta 0 tc) (.slice ua 0 uc) (w2.alloc (.cells #[.int .u64 0, .bool false, .slice ta 0 tc, .slice ua 0 uc] 26 (0, 0))) := TreeVar.new ht
      have HV := Lib.hid hV
      have HB2 := Lib.hid (below_al (below_tr HB1.out hb2) (.cells #[.int .u64 0, .bool false, .slice ta 0 tc, .slice ua 0 uc] 26 (0, 0)))
      clear hown hb2 ht hV
      go_wp2_with fail
      refine (same_said 1 zeroTr zeroTr _ _ _ _ _ (by decide) zero_ok zero_ok HV.out.2.2 (leaf 0 false)).mono ?_
      rintro e w3 ⟨rfl, hb3⟩
      have HB3 := Lib.hid (below_tr HB2.out hb3)
      have hsm : Tr.same zeroTr zeroTr = true := Tr.same_true.2 rfl
      clear hb3
      rcases HE.out.1 with rfl | rfl | rfl
      all_goals go_wp2_with fail
      all_goals go_ret
      all_goals exact ⟨rfl, HB3.out⟩
end Go.Proofs.Ytdogiobppeemiaa
