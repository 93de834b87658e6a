/- The law WideTexts: its walk. -/
import Derived.Test.YtmfjfjjdmgjoaaaWideH
import Derived.Outline
namespace Go.Proofs.Ytmfjfjjdmgjoaaa
open Go.RowKit Go.Lib

theorem drop_zero_at (s : ByteArray) (h : 0 < s.size) : s.data.toList = s[0] :: s.data.toList.drop 1 := by
  have := drop_at s 0 h
  simpa using this

set_option maxHeartbeats 6400000 in
theorem WideTexts_walk (a : Int) (ha : (Lit.int .u64 a).wf = true) (s : ByteArray) (hs : s.size ≤ maxLen) (w : World) :
    Calls Try.prog 6 #[.int .u64 a, .string s] w fun e w' => e = .returned (.bool true) ∧ Below w.heap.size w w' := by
  obtain ⟨a0, a1⟩ := bounds_u64 ha
  clear ha
  obtain ⟨n, rfl⟩ := Int.eq_ofNat_of_zero_le a0
  obtain ⟨d, hd1, hd2, hdig, hpar⟩ := digits_parse n (by omega)
  have HD := Lib.hid hdig; have HP := Lib.hid hpar
  clear hdig hpar
  have hsP := fun w => wparse s w hs
  unfold maxLen at hs
  by_cases hbig : 100 < s.size
  · go_enter Try.func6, Try.ntmps6
    go_wp2_with fail
    refine (reckons_true _).mono ?_; rintro e w1 ⟨rfl, hb1⟩
    go_wp2_with fail
    go_ret
    exact ⟨rfl, hb1⟩
  obtain ⟨Y, hY⟩ : ∃ Y, (parseS s.data.toList).1 = Y := ⟨_, rfl⟩
  obtain ⟨E, hE⟩ : ∃ E, (parseS s.data.toList).2 = E := ⟨_, rfl⟩
  rw [hY, hE] at hsP
  have hYE : parseS s.data.toList = (Y, E) := by rw [← hY, ← hE]
  have HS := Lib.hid hsP
  have HYE := Lib.hid hYE
  clear hsP hY hE hYE
  have hcases : (s.toList.isEmpty = true ∧ parseBad s.data.toList = true) ∨ (s.toList.isEmpty = false ∧ ((s.size : Int) == 1) = true ∧ parseBad s.data.toList = false) ∨
      (s.toList.isEmpty = false ∧ ((s.size : Int) == 1) = false ∧ ∃ h : 0 < s.size, ((s[0].toNat : Int) == 48) = true ∧ ((s[0].toNat : Int) != 48) = false ∧ parseBad s.data.toList = true) ∨
      (s.toList.isEmpty = false ∧ ((s.size : Int) == 1) = false ∧ ∃ h : 0 < s.size, ((s[0].toNat : Int) == 48) = false ∧ ((s[0].toNat : Int) != 48) = true ∧ parseBad s.data.toList = false) := by
    by_cases hz : s.size = 0
    · have h0 : s.data.toList = [] := by rw [← List.length_eq_zero_iff]; simpa using hz
      exact .inl ⟨by rw [ByteArray.toList_eq, h0]; rfl, by rw [h0]; rfl⟩
    have hp : 0 < s.size := by omega
    have he : s.toList.isEmpty = false := by rw [ByteArray.toList_eq, drop_zero_at s hp]; rfl
    by_cases h1 : s.size = 1
    · refine .inr (.inl ⟨he, by rw [beq_iff_eq]; omega, ?_⟩)
      rw [drop_zero_at s hp, List.drop_eq_nil_of_le (by simp; omega)]; rfl
    have hq : 1 < s.size := by omega
    have hl : ((s.size : Int) == 1) = false := by rw [beq_eq_false_iff_ne]; omega
    have hbd : parseBad s.data.toList = decide (s[0].toNat = 48) := by
      rw [drop_zero_at s hp, drop_at s 1 hq]; rfl
    by_cases hc : s[0].toNat = 48
    · exact .inr (.inr (.inl ⟨he, hl, hp, by rw [beq_iff_eq]; omega, by rw [bne_eq_false_iff_eq]; omega, by rw [hbd]; simpa using hc⟩))
    · exact .inr (.inr (.inr ⟨he, hl, hp, by rw [beq_eq_false_iff_ne]; omega, by rw [bne_iff_ne]; omega, by rw [hbd]; simpa using hc⟩))
  rcases hcases with ⟨c1, hb⟩ | ⟨c1, c2, hb⟩ | ⟨c1, c2, c0, c3, c4, hb⟩ | ⟨c1, c2, c0, c3, c4, hb⟩
  all_goals
    have HB := Lib.hid hb
    clear hb
    go_enter Try.func6, Try.ntmps6
    go_wp2_with fail
    refine (reckons_true _).mono ?_; rintro e w1 ⟨rfl, hb1⟩
    go_wp2_with fail
    refine (HD.out _).mono ?_; rintro e w2 ⟨rfl, hb2⟩
    go_wp2_with fail
    refine (HP.out _).mono ?_; rintro e w3 ⟨rfl, rfl⟩
    go_wp2_with fail
    refine (HS.out _).mono ?_; rintro e w3 ⟨rfl, rfl⟩
    go_wp2_with fail
    have HW := Lib.hid (hb1.trans (hb2.mono hb1.size))
    clear hb1 hb2 c1
    go_loop [62, 10, 11, 12] (fun i gd v ov => TextInv s (!parseBad s.data.toList) i gd v ov) (fun i _ _ _ => s.size - (intOf i).toNat)
    case atStart => first | (have h := TextInv.start s true; rw [HB.out]; exact h) | (have h := TextInv.start s false; rw [HB.out]; exact h)
    case round =>
      obtain ⟨k, m', m, o, rfl, rfl, rfl, rfl, hk, hm, hm', ho, hp, hd⟩ := hrel
      rw [HB.out]
      by_cases hlt : k < s.size
      · by_cases hc : isDig s[k] = true
        · obtain ⟨n1, n2, n3⟩ := TextInv.next (b := !parseBad s.data.toList) hlt hm hm' ho hp hd hc
          have hcd := isDig_iff hc
          clear hp ho hd hc
          cases o
          · by_cases hov : (18446744073709551615 - ((s[k].toNat : Int) - 48)) / 10 < (m : Int)
            · have HN := Lib.hid (n2 rfl hov)
              have hov' : decide ((18446744073709551615 - ((s[k].toNat : Int) - 48)) / 10 < (m : Int)) = true := by simpa using hov
              rw [HB.out] at HN
              clear n1 n2 n3
              go_wp2
              exact ⟨HN.out, by simp [intOf]; omega⟩
            · have HN := Lib.hid (n3 rfl (by omega))
              have hov' : decide ((18446744073709551615 - ((s[k].toNat : Int) - 48)) / 10 < (m : Int)) = false := by simpa using hov
              rw [HB.out] at HN
              have hb1 : (m : Int) * 10 + ((s[k].toNat : Int) - 48) ≤ 18446744073709551615 := by omega
              clear n1 n2 n3
              go_wp2
              exact ⟨HN.out, by simp [intOf]; omega⟩
          · have HN := Lib.hid (n1 rfl)
            rw [HB.out] at HN
            clear n1 n2 n3
            go_wp2
            exact ⟨HN.out, by simp [intOf]; omega⟩
        · have hq := text_sign hlt hp hc
          rw [HYE.out] at hq
          simp only [Prod.mk.injEq] at hq
          obtain ⟨q1, q2⟩ := hq
          have t1 : (Y == 0) = true := by rw [beq_iff_eq]; exact q1
          have t2 : (E == 5) = true := by rw [beq_iff_eq]; exact q2
          clear q1 q2 hp ho hd
          by_cases hlo : (s[k].toNat : Int) < 48
          · clear hc
            go_wp2
            go_ret
            exact ⟨rfl, HW.out⟩
          · have hhi : 57 < (s[k].toNat : Int) := by
              have : ¬ (48 ≤ s[k].toNat ∧ s[k].toNat ≤ 57) := fun h => hc (by simp [isDig]; omega)
              omega
            clear hc
            go_wp2
            go_ret
            exact ⟨rfl, HW.out⟩
      · have hk' : s.size ≤ k := by omega
        first
          | (have hq := text_bad HB.out
             rw [HYE.out] at hq
             simp only [Prod.mk.injEq] at hq
             obtain ⟨q1, q2⟩ := hq
             have t1 : (Y == 0) = true := by rw [beq_iff_eq]; exact q1
             have t2 : (E == 5) = true := by rw [beq_iff_eq]; exact q2
             clear q1 q2 hp ho hd
             go_wp2
             go_ret
             exact ⟨rfl, HW.out⟩)
          | (have hq := text_end hk' hp HB.out
             rw [HYE.out] at hq
             cases o
             · obtain ⟨e1, e2⟩ := ho rfl
               have hD := fun w => text_digits hk' e2 hm hd HB.out w
               simp only [Bool.false_eq_true, ↓reduceIte, Prod.mk.injEq] at hq
               obtain ⟨q1, q2⟩ := hq
               rw [e1] at q1
               rw [← q1] at hD
               have t1 : (Y == (m : Int)) = true := by rw [beq_iff_eq]; exact q1
               have t2 : (E == 0) = true := by rw [beq_iff_eq]; exact q2
               have HDD := Lib.hid hD
               clear q1 q2 hp ho hd hD e1 e2
               go_wp2_with fail
               refine (HDD.out _).mono ?_; rintro e w4 ⟨rfl, hb4⟩
               go_wp2_with fail
               go_ret
               exact ⟨rfl, HW.out.trans (hb4.mono HW.out.size)⟩
             · simp only [↓reduceIte, Prod.mk.injEq] at hq
               obtain ⟨q1, q2⟩ := hq
               have t1 : (Y == 0) = true := by rw [beq_iff_eq]; exact q1
               have t2 : (E == 40) = true := by rw [beq_iff_eq]; exact q2
               clear q1 q2 hp ho hd
               go_wp2
               go_ret
               exact ⟨rfl, HW.out⟩)
end Go.Proofs.Ytmfjfjjdmgjoaaa
