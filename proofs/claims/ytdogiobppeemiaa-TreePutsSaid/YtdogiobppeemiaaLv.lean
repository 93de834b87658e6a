/- The law TreePuts: the walk. -/
import Derived.Test.YtdogiobppeemiaaLu
import Derived.Test.YtdogiobppeemiaaRow
namespace Go.Proofs.Ytdogiobppeemiaa
set_option linter.unusedSimpArgs false
set_option linter.unusedVariables false
open Go.RowKit

set_option maxRecDepth 8000 in
set_option maxHeartbeats 6400000 in
theorem puts_core (a b : Tr) (da ka db kb : Value) (pa : Option Addr) (len cap : Nat) (way : List Int) (w : World) (oka : a.ok) (okb : b.ok) (hta : TrAt (· < w.heap.size) w a da ka) (htb : TrAt (· < w.heap.size) w b db kb) (hway : WayAt way pa len cap w) :
    Calls Try.prog 5 #[.agg #[.int .u64 (a.num : Int), .bool a.blank, da, ka], .agg #[.int .u64 (b.num : Int), .bool b.blank, db, kb], .slice pa len cap] w fun e w' => e = .returned (.bool true) ∧ Below w.heap.size w w' := by
  obtain ⟨ta, tc, ua, uc, rfl, rfl, _, _, _, _⟩ := hta.form
  obtain ⟨sa, sc, ra, rc, rfl, rfl, _, _, _, _⟩ := htb.form
  have hA : TreeVar w.heap.size a (.slice ta a.data.length tc) (.slice ua a.kids.length uc) ((w.alloc (.cells #[.int .u64 (a.num : Int), .bool a.blank, .slice ta a.data.length tc, .slice ua a.kids.length uc] 26 (0, 0))).alloc (.cells #[.int .u64 (b.num : Int), .bool b.blank, .slice sa b.data.length sc, .slice ra b.kids.length rc] 26 (0, 0))) := (TreeVar.new hta).up (below_al (Below.refl _ _) _)
  have hB : TreeVar (w.heap.size + 1) b (.slice sa b.data.length sc) (.slice ra b.kids.length rc) ((w.alloc (.cells #[.int .u64 (a.num : Int), .bool a.blank, .slice ta a.data.length tc, .slice ua a.kids.length uc] 26 (0, 0))).alloc (.cells #[.int .u64 (b.num : Int), .bool b.blank, .slice sa b.data.length sc, .slice ra b.kids.length rc] 26 (0, 0))) := by
    have := TreeVar.new (htb.up (below_al (Below.refl _ _) (.cells #[.int .u64 (a.num : Int), .bool a.blank, .slice ta a.data.length tc, .slice ua a.kids.length uc] 26 (0, 0))))
    rw [size_al] at this
    exact this
  have hw := below_alloc2 w (.cells #[.int .u64 (a.num : Int), .bool a.blank, .slice ta a.data.length tc, .slice ua a.kids.length uc] 26 (0, 0)) (.cells #[.int .u64 (b.num : Int), .bool b.blank, .slice sa b.data.length sc, .slice ra b.kids.length rc] 26 (0, 0))
  have hlen := hway.hlen
  have HTA := Lib.hid hta
  have HTB := Lib.hid htb
  have HOA := Lib.hid oka
  have HOB := Lib.hid okb
  have HA := Lib.hid hA
  have HB := Lib.hid hB
  have HW := Lib.hid hw
  have HY := Lib.hid hway
  have HLEN := Lib.hid hlen
  clear hta htb oka okb hA hB hw hway hlen
  obtain ⟨⟨fa, la⟩, hfa⟩ : ∃ r, a.few 200 0 = r := ⟨_, rfl⟩
  have HFA := Lib.hid hfa
  clear hfa
  go_enter Try.func5, Try.ntmps5
  go_wp2_with fail
  refine (texts_any _).mono ?_
  rintro e w1 ⟨rfl, hb1⟩
  have hA1 := HA.out.up hb1
  have hB1 := HB.out.up hb1
  obtain ⟨q0, q1, q2, q3⟩ := hA1.cells
  have hs1 := hA1.1
  have hW1 := HW.out.trans (hb1.mono HW.out.size)
  have hq := fun o => cell_alloc' (w := w1) (o := o) hs1 q0
  have hq1 := fun o => cell_alloc' (w := w1) (o := o) hs1 q1
  have hq2 := fun o => cell_alloc' (w := w1) (o := o) hs1 q2
  have hq3 := fun o => cell_alloc' (w := w1) (o := o) hs1 q3
  have HA1 := Lib.hid hA1
  have HB1 := Lib.hid hB1
  have HW1 := Lib.hid hW1
  clear hb1 hA1 hB1 hW1 q0 q1 q2 q3
  go_wp2_with fail
  clear hq hq1 hq2 hq3
  refine (few_any (left := 200) (HW1.out.trans ((below_al (Below.refl _ _) _).mono HW1.out.size)) HTA.out (by omega) (by omega) w1.heap.size HW1.out.size (heap_new _ _)).mono ?_
  rintro e w2 ⟨rfl, hL, hk⟩
  have hb12 : Below w1.heap.size w1 w2 := (below_al (Below.refl _ _) _).trans (hk.below (Nat.le_refl _) (by rw [size_al]; omega))
  have HA2 := Lib.hid (HA1.out.up hb12)
  have hB2 := HB1.out.up hb12
  obtain ⟨q0, q1, q2, q3⟩ := hB2.cells
  have HB2 := Lib.hid hB2
  have HW2 := Lib.hid (HW1.out.trans (hb12.mono HW1.out.size))
  have HB12 := Lib.hid hb12
  have HL := Lib.hid hL
  clear hk hL hb12 hB2
  rw [HFA.out]
  rcases fa with _ | _
  · clear q0 q1 q2 q3
    go_wp2_with fail
    go_ret
    exact ⟨rfl, HW2.out⟩
  · have hfx := HFA.out
    have hf1 : (a.few 200 0).1 = true := by rw [hfx]
    obtain ⟨z1, z2, z3, z4, z5⟩ := few_facts (left := 200) (by omega) (by omega) hf1
    rw [hfx] at z1 z2
    simp only at z1 z2
    have hla : 0 ≤ la ∧ la ≤ 200 := by have := a.size_pos; omega
    have HZA := Lib.hid (And.intro (show a.size ≤ 200 by omega) z3)
    have HLA := Lib.hid hla
    obtain ⟨⟨fb, lb⟩, hfb⟩ : ∃ r, b.few la 0 = r := ⟨_, rfl⟩
    have HFB := Lib.hid hfb
    clear z1 z2 z3 z4 z5 hf1 hfx hla hfb
    go_wp2_with fail
    clear q0 q1 q2 q3
    refine (few_any (left := la) HW2.out HTB.out HLA.out.1 (by have := HLA.out.2; omega) w1.heap.size HW1.out.size (by have := HL.out; rw [HFA.out] at this; exact this)).mono ?_
    rintro e w3 ⟨rfl, hL3, hk3⟩
    have hb13 : Below w1.heap.size w1 w3 := HB12.out.trans (hk3.below (Nat.le_refl _) HB12.out.size)
    have hA3 := HA1.out.up hb13
    have HA3 := Lib.hid hA3
    have HB3 := Lib.hid (HB1.out.up hb13)
    have hW3 := HW1.out.trans (hb13.mono HW1.out.size)
    have HW3 := Lib.hid hW3
    have HY3 := Lib.hid (HY.out.up hW3)
    obtain ⟨q0, q1, q2, q3⟩ := hA3.cells
    clear hL3 hk3 hb13 hA3 hW3
    rw [HFB.out]
    rcases fb with _ | _
    · clear q0 q1 q2 q3
      go_wp2_with fail
      go_ret
      exact ⟨rfl, HW3.out⟩
    · have hfx := HFB.out
      have hf1 : (b.few la 0).1 = true := by rw [hfx]
      obtain ⟨z1, z2, z3, z4, z5⟩ := few_facts (by have := HLA.out.2; omega) HLA.out.1 hf1
      rw [hfx] at z1 z2
      simp only at z1 z2
      have HZB := Lib.hid (And.intro (show b.size ≤ 200 by have := HLA.out.2; omega) z3)
      clear z1 z2 z3 z4 z5 hf1 hfx
      by_cases h50 : 50 < len
      · have h50' : (50 : Int) < (len : Int) := by omega
        clear q0 q1 q2 q3
        go_wp2_with fail
        go_ret
        exact ⟨rfl, HW3.out⟩
      · have h50' : (len : Int) ≤ 50 := by omega
        go_wp2_with fail
        clear q0 q1 q2 q3
        refine (clone_said a.size a _ _ _ (Nat.le_refl _) HZA.out.2 HA3.out.2.2).mono ?_
        rintro e w4 ⟨dv, kv, kxs, rfl, hown, hb4⟩
        have ht4 := hown.at_
        obtain ⟨va, vc, xa, xc, rfl, rfl, _, _, _, _⟩ := ht4.form
        have hb5 := below_al hb4 (.cells #[.int .u64 (a.num : Int), .bool a.blank, .slice va a.data.length vc, .slice xa a.kids.length xc] 26 (0, 0))
        have hA5 := HA3.out.up hb5
        have HA5 := Lib.hid hA5
        have HB5 := Lib.hid (HB3.out.up hb5)
        have HC5 := Lib.hid (TreeVar.new ht4)
        have HY5 := Lib.hid (HY3.out.up hb5)
        have HW5 := Lib.hid (HW3.out.trans (hb5.mono HW3.out.size))
        obtain ⟨q0, q1, q2, q3⟩ := hA5.cells
        clear hown hb4 ht4 hb5 hA5
        go_wp2_with fail
        clear q0 q1 q2 q3
        rcases put_laws b way a with ⟨hat, hpt⟩ | ⟨old, u, hat, hpt, hat2, hpt2, hsz, hoks, hsms⟩
        · have HPT := Lib.hid hpt
          clear hpt
          refine (at_none hat HA5.out.2.2 HY5.out).mono ?_
          rintro e w6 ⟨rfl, hb6⟩
          have hb7 := below_al hb6 (.cells #[.int .u64 0, .bool false, .slice none 0 0, .slice none 0 0] 26 (0, 0))
          have hN7 : TreeVar w6.heap.size zeroTr (.slice none 0 0) (.slice none 0 0) (w6.alloc (.cells #[.int .u64 0, .bool false, .slice none 0 0, .slice none 0 0] 26 (0, 0))) := TreeVar.new (t := zeroTr) (leaf 0 false)
          have hA7 := HA5.out.up hb7
          have hB7 := HB5.out.up hb7
          have HA7 := Lib.hid hA7
          have HB7 := Lib.hid hB7
          have HC7 := Lib.hid (HC5.out.up hb7)
          have HN7 := Lib.hid hN7
          have HY7 := Lib.hid (HY5.out.up hb7)
          have HW7 := Lib.hid (HW5.out.trans (hb7.mono HW5.out.size))
          obtain ⟨q0, q1, q2, q3⟩ := hA7.cells
          obtain ⟨p0, p1, p2, p3⟩ := hB7.cells
          clear hat hb6 hb7 hN7 hA7 hB7
          go_wp2_with fail
          clear q0 q1 q2 q3 p0 p1 p2 p3
          refine (put_none HPT.out HZA.out.2 HZB.out.2 (by have := HZA.out.1; omega) (by have := HZB.out.1; omega) HA7.out.2.2 HB7.out.2.2 HY7.out).mono ?_
          rintro e w8 ⟨rfl, hb8⟩
          have hb9 := below_al hb8 (.cells #[.int .u64 0, .bool false, .slice none 0 0, .slice none 0 0] 26 (0, 0))
          have hA9 := HA7.out.up hb9
          have hC9 := HC7.out.up hb9
          have hU9 : TreeVar w8.heap.size zeroTr (.slice none 0 0) (.slice none 0 0) (w8.alloc (.cells #[.int .u64 0, .bool false, .slice none 0 0, .slice none 0 0] 26 (0, 0))) := TreeVar.new (t := zeroTr) (leaf 0 false)
          have HA9 := Lib.hid hA9
          have HC9 := Lib.hid hC9
          have HN9 := Lib.hid (HN7.out.up hb9)
          have HU9 := Lib.hid hU9
          have HW9 := Lib.hid (HW7.out.trans (hb9.mono HW7.out.size))
          obtain ⟨q0, q1, q2, q3⟩ := hA9.cells
          obtain ⟨p0, p1, p2, p3⟩ := hC9.cells
          clear hb8 hb9 hA9 hC9 hU9
          go_wp2_with fail
          clear q0 q1 q2 q3 p0 p1 p2 p3
          refine (same_said a.size a a _ _ _ _ _ (Nat.le_refl _) HOA.out HOA.out HA9.out.2.2 HC9.out.2.2).mono ?_
          rintro e w10 ⟨rfl, hb10⟩
          have hsm : Tr.same a a = true := Tr.same_true.2 rfl
          have hN10 := HN9.out.up hb10
          have HN10 := Lib.hid hN10
          have HU10 := Lib.hid (HU9.out.up hb10)
          have HW10 := Lib.hid (HW9.out.trans (hb10.mono HW9.out.size))
          obtain ⟨q0, q1, q2, q3⟩ : w10.cell? ⟨w6.heap.size, 0, none⟩ = some (.int .u64 0) ∧ w10.cell? ⟨w6.heap.size, 1, none⟩ = some (.bool false) ∧ w10.cell? ⟨w6.heap.size, 2, none⟩ = some (.slice none 0 0) ∧ w10.cell? ⟨w6.heap.size, 3, none⟩ = some (.slice none 0 0) := hN10.cells
          clear hb10 hN10
          go_wp2_with fail
          clear q0 q1 q2 q3 hsm
          refine (same_said 1 zeroTr zeroTr _ _ _ _ _ (by decide) zero_ok zero_ok HN10.out.2.2 (leaf 0 false)).mono ?_
          rintro e w11 ⟨rfl, hb11⟩
          have hsm : Tr.same zeroTr zeroTr = true := Tr.same_true.2 rfl
          have hU11 := HU10.out.up hb11
          have HU11 := Lib.hid hU11
          have HW11 := Lib.hid (HW10.out.trans (hb11.mono HW10.out.size))
          obtain ⟨q0, q1, q2, q3⟩ : w11.cell? ⟨w8.heap.size, 0, none⟩ = some (.int .u64 0) ∧ w11.cell? ⟨w8.heap.size, 1, none⟩ = some (.bool false) ∧ w11.cell? ⟨w8.heap.size, 2, none⟩ = some (.slice none 0 0) ∧ w11.cell? ⟨w8.heap.size, 3, none⟩ = some (.slice none 0 0) := hU11.cells
          clear hb11 hU11
          go_wp2_with fail
          clear q0 q1 q2 q3 hsm
          refine (same_said 1 zeroTr zeroTr _ _ _ _ _ (by decide) zero_ok zero_ok HU11.out.2.2 (leaf 0 false)).mono ?_
          rintro e w12 ⟨rfl, hb12⟩
          have hsm : Tr.same zeroTr zeroTr = true := Tr.same_true.2 rfl
          have HW12 := Lib.hid (HW11.out.trans (hb12.mono HW11.out.size))
          clear hb12
          go_wp2_with fail
          go_ret
          exact ⟨rfl, HW12.out⟩
        · have HSZ := Lib.hid hsz
          have HOK := Lib.hid (hoks HOA.out HOB.out)
          have HSM := Lib.hid (hsms HZA.out.2 HZB.out.2)
          have HPT := Lib.hid (And.intro hpt (And.intro hat2 hpt2))
          clear hpt hat2 hpt2 hsz hoks hsms
          refine (at_some hat HA5.out.2.2 HY5.out).mono ?_
          rintro e w6 ⟨oa, oc, o2, oc2, rfl, hto, hb6⟩
          have hb7 := below_al hb6 (.cells #[.int .u64 (old.num : Int), .bool old.blank, .slice oa old.data.length oc, .slice o2 old.kids.length oc2] 26 (0, 0))
          have hN7 := TreeVar.new hto
          have hA7 := HA5.out.up hb7
          have hB7 := HB5.out.up hb7
          have HA7 := Lib.hid hA7
          have HB7 := Lib.hid hB7
          have HC7 := Lib.hid (HC5.out.up hb7)
          have HN7 := Lib.hid hN7
          have HY7 := Lib.hid (HY5.out.up hb7)
          have HW7 := Lib.hid (HW5.out.trans (hb7.mono HW5.out.size))
          obtain ⟨q0, q1, q2, q3⟩ := hA7.cells
          obtain ⟨p0, p1, p2, p3⟩ := hB7.cells
          clear hat hto hb6 hb7 hN7 hA7 hB7
          go_wp2_with fail
          clear q0 q1 q2 q3 p0 p1 p2 p3
          refine (put_some HPT.out.1 HZA.out.2 HZB.out.2 (by have := HZA.out.1; omega) (by have := HZB.out.1; omega) HA7.out.2.2 HB7.out.2.2 HY7.out).mono ?_
          rintro e w8 ⟨na, nc, n2, nc2, rfl, htu, hb8⟩
          have hb9 := below_al hb8 (.cells #[.int .u64 (u.num : Int), .bool u.blank, .slice na u.data.length nc, .slice n2 u.kids.length nc2] 26 (0, 0))
          have hA9 := HA7.out.up hb9
          have hC9 := HC7.out.up hb9
          have hU9 := TreeVar.new htu
          have HA9 := Lib.hid hA9
          have HB9 := Lib.hid (HB7.out.up hb9)
          have HC9 := Lib.hid hC9
          have HN9 := Lib.hid (HN7.out.up hb9)
          have HU9 := Lib.hid hU9
          have HY9 := Lib.hid (HY7.out.up hb9)
          have HW9 := Lib.hid (HW7.out.trans (hb9.mono HW7.out.size))
          obtain ⟨q0, q1, q2, q3⟩ := hA9.cells
          obtain ⟨p0, p1, p2, p3⟩ := hC9.cells
          clear htu hb8 hb9 hA9 hC9 hU9
          go_wp2_with fail
          clear q0 q1 q2 q3 p0 p1 p2 p3
          refine (same_said a.size a a _ _ _ _ _ (Nat.le_refl _) HOA.out HOA.out HA9.out.2.2 HC9.out.2.2).mono ?_
          rintro e w10 ⟨rfl, hb10⟩
          have hsm : Tr.same a a = true := Tr.same_true.2 rfl
          have hU10 := HU9.out.up hb10
          have HA10 := Lib.hid (HA9.out.up hb10)
          have HB10 := Lib.hid (HB9.out.up hb10)
          have HN10 := Lib.hid (HN9.out.up hb10)
          have HU10 := Lib.hid hU10
          have HY10 := Lib.hid (HY9.out.up hb10)
          have HW10 := Lib.hid (HW9.out.trans (hb10.mono HW9.out.size))
          obtain ⟨q0, q1, q2, q3⟩ := hU10.cells
          clear hb10 hU10
          go_wp2_with fail
          clear q0 q1 q2 q3 hsm
          refine (at_some HPT.out.2.1 HU10.out.2.2 HY10.out).mono ?_
          rintro e w11 ⟨ea, ec, e2, ec2, rfl, htx, hb11⟩
          have hb12 := below_al hb11 (.cells #[.int .u64 (b.num : Int), .bool b.blank, .slice ea b.data.length ec, .slice e2 b.kids.length ec2] 26 (0, 0))
          have hU12 := HU10.out.up hb12
          have hN12 := HN10.out.up hb12
          have HA12 := Lib.hid (HA10.out.up hb12)
          have HB12 := Lib.hid (HB10.out.up hb12)
          have HN12 := Lib.hid hN12
          have HU12 := Lib.hid hU12
          have HX12 := Lib.hid (TreeVar.new htx)
          have HY12 := Lib.hid (HY10.out.up hb12)
          have HW12 := Lib.hid (HW10.out.trans (hb12.mono HW10.out.size))
          obtain ⟨q0, q1, q2, q3⟩ := hU12.cells
          obtain ⟨p0, p1, p2, p3⟩ := hN12.cells
          clear htx hb11 hb12 hU12 hN12
          go_wp2_with fail
          clear q0 q1 q2 q3 p0 p1 p2 p3
          refine (put_some HPT.out.2.2 HSM.out.1 HSM.out.2 (by have := HSZ.out; have := HZA.out.1; have := HZB.out.1; omega) (by have := HSZ.out; have := HZA.out.1; have := HZB.out.1; omega) HU12.out.2.2 HN12.out.2.2 HY12.out).mono ?_
          rintro e w13 ⟨ga, gc, g2, gc2, rfl, htg, hb13⟩
          have hb14 := below_al hb13 (.cells #[.int .u64 (a.num : Int), .bool a.blank, .slice ga a.data.length gc, .slice g2 a.kids.length gc2] 26 (0, 0))
          have hA14 := HA12.out.up hb14
          have hB14 := HB12.out.up hb14
          have hN14 := HN12.out.up hb14
          have hU14 := HU12.out.up hb14
          have hX14 := HX12.out.up hb14
          have hG14 := TreeVar.new htg
          have hW14 := HW12.out.trans (hb14.mono HW12.out.size)
          obtain ⟨W, hW⟩ : ∃ W, (w13.alloc (.cells #[.int .u64 (a.num : Int), .bool a.blank, .slice ga a.data.length gc, .slice g2 a.kids.length gc2] 26 (0, 0))) = W := ⟨_, rfl⟩
          rw [hW] at hA14 hB14 hN14 hU14 hX14 hG14 hW14
          clear htg hb13 hb14
          go_upto_region 15 with fail
          clear hW
          have hS : ∀ X, Below W.heap.size W X → X.cell? ⟨w11.heap.size, 0, none⟩ = some (.int .u64 (b.num : Int)) ∧ X.cell? ⟨w11.heap.size, 1, none⟩ = some (.bool b.blank) ∧ X.cell? ⟨w11.heap.size, 2, none⟩ = some (.slice ea b.data.length ec) ∧ X.cell? ⟨w11.heap.size, 3, none⟩ = some (.slice e2 b.kids.length ec2) ∧ X.cell? ⟨w.heap.size + 1, 0, none⟩ = some (.int .u64 (b.num : Int)) ∧ X.cell? ⟨w.heap.size + 1, 1, none⟩ = some (.bool b.blank) ∧ X.cell? ⟨w.heap.size + 1, 2, none⟩ = some (.slice sa b.data.length sc) ∧ X.cell? ⟨w.heap.size + 1, 3, none⟩ = some (.slice ra b.kids.length rc) ∧ X.cell? ⟨w13.heap.size, 0, none⟩ = some (.int .u64 (a.num : Int)) ∧ X.cell? ⟨w13.heap.size, 1, none⟩ = some (.bool a.blank) ∧ X.cell? ⟨w13.heap.size, 2, none⟩ = some (.slice ga a.data.length gc) ∧ X.cell? ⟨w13.heap.size, 3, none⟩ = some (.slice g2 a.kids.length gc2) ∧ X.cell? ⟨w.heap.size, 0, none⟩ = some (.int .u64 (a.num : Int)) ∧ X.cell? ⟨w.heap.size, 1, none⟩ = some (.bool a.blank) ∧ X.cell? ⟨w.heap.size, 2, none⟩ = some (.slice ta a.data.length tc) ∧ X.cell? ⟨w.heap.size, 3, none⟩ = some (.slice ua a.kids.length uc) ∧ X.cell? ⟨w8.heap.size, 0, none⟩ = some (.int .u64 (u.num : Int)) ∧ X.cell? ⟨w8.heap.size, 1, none⟩ = some (.bool u.blank) ∧ X.cell? ⟨w8.heap.size, 2, none⟩ = some (.slice na u.data.length nc) ∧ X.cell? ⟨w8.heap.size, 3, none⟩ = some (.slice n2 u.kids.length nc2) ∧ X.cell? ⟨w6.heap.size, 0, none⟩ = some (.int .u64 (old.num : Int)) ∧ X.cell? ⟨w6.heap.size, 1, none⟩ = some (.bool old.blank) ∧ X.cell? ⟨w6.heap.size, 2, none⟩ = some (.slice oa old.data.length oc) ∧ X.cell? ⟨w6.heap.size, 3, none⟩ = some (.slice o2 old.kids.length oc2) := fun X h => ⟨(hX14.up h).cells.1, (hX14.up h).cells.2.1, (hX14.up h).cells.2.2.1, (hX14.up h).cells.2.2.2, (hB14.up h).cells.1, (hB14.up h).cells.2.1, (hB14.up h).cells.2.2.1, (hB14.up h).cells.2.2.2, (hG14.up h).cells.1, (hG14.up h).cells.2.1, (hG14.up h).cells.2.2.1, (hG14.up h).cells.2.2.2, (hA14.up h).cells.1, (hA14.up h).cells.2.1, (hA14.up h).cells.2.2.1, (hA14.up h).cells.2.2.2, (hU14.up h).cells.1, (hU14.up h).cells.2.1, (hU14.up h).cells.2.2.1, (hU14.up h).cells.2.2.2, (hN14.up h).cells.1, (hN14.up h).cells.2.1, (hN14.up h).cells.2.2.1, (hN14.up h).cells.2.2.2⟩
          have hSx : ∀ X, Below W.heap.size W X → Calls Try.prog 12 #[.agg #[.int .u64 (b.num : Int), .bool b.blank, .slice ea b.data.length ec, .slice e2 b.kids.length ec2], .agg #[.int .u64 (b.num : Int), .bool b.blank, .slice sa b.data.length sc, .slice ra b.kids.length rc]] X fun e w' => e = .returned (.bool true) ∧ Below W.heap.size W w' := fun X h => by
            refine (same_said b.size b b _ _ _ _ X (Nat.le_refl _) HOB.out HOB.out (hX14.up h).2.2 (hB14.up h).2.2).mono ?_
            rintro e w' ⟨rfl, hb⟩
            exact ⟨ret_b (Tr.same_true.2 rfl), below_tr h hb⟩
          have hSb : ∀ X, Below W.heap.size W X → Calls Try.prog 12 #[.agg #[.int .u64 (a.num : Int), .bool a.blank, .slice ga a.data.length gc, .slice g2 a.kids.length gc2], .agg #[.int .u64 (a.num : Int), .bool a.blank, .slice ta a.data.length tc, .slice ua a.kids.length uc]] X fun e w' => e = .returned (.bool true) ∧ Below W.heap.size W w' := fun X h => by
            refine (same_said a.size a a _ _ _ _ X (Nat.le_refl _) HOA.out HOA.out (hG14.up h).2.2 (hA14.up h).2.2).mono ?_
            rintro e w' ⟨rfl, hb⟩
            exact ⟨ret_b (Tr.same_true.2 rfl), below_tr h hb⟩
          have hPu : ∀ X, Below W.heap.size W X → Calls Try.prog 17 #[.agg #[.int .u64 (u.num : Int), .bool u.blank, .slice na u.data.length nc, .slice n2 u.kids.length nc2]] X fun e w' => e = .returned (.int .i64 (u.size : Int)) ∧ Below W.heap.size W w' := fun X h => by
            refine (parts_any u.size u _ _ X (Nat.le_refl _) (by have := HSZ.out; have := HZA.out.1; have := HZB.out.1; omega) (hU14.up h).2.2).mono ?_
            rintro e w' ⟨rfl, hb⟩
            exact ⟨rfl, below_tr h hb⟩
          have hPb : ∀ X, Below W.heap.size W X → Calls Try.prog 17 #[.agg #[.int .u64 (b.num : Int), .bool b.blank, .slice sa b.data.length sc, .slice ra b.kids.length rc]] X fun e w' => e = .returned (.int .i64 (b.size : Int)) ∧ Below W.heap.size W w' := fun X h => by
            refine (parts_any b.size b _ _ X (Nat.le_refl _) (by have := HSZ.out; have := HZA.out.1; have := HZB.out.1; omega) (hB14.up h).2.2).mono ?_
            rintro e w' ⟨rfl, hb⟩
            exact ⟨rfl, below_tr h hb⟩
          have hPa : ∀ X, Below W.heap.size W X → Calls Try.prog 17 #[.agg #[.int .u64 (a.num : Int), .bool a.blank, .slice ta a.data.length tc, .slice ua a.kids.length uc]] X fun e w' => e = .returned (.int .i64 (a.size : Int)) ∧ Below W.heap.size W w' := fun X h => by
            refine (parts_any a.size a _ _ X (Nat.le_refl _) (by have := HSZ.out; have := HZA.out.1; have := HZB.out.1; omega) (hA14.up h).2.2).mono ?_
            rintro e w' ⟨rfl, hb⟩
            exact ⟨rfl, below_tr h hb⟩
          have hPo : ∀ X, Below W.heap.size W X → Calls Try.prog 17 #[.agg #[.int .u64 (old.num : Int), .bool old.blank, .slice oa old.data.length oc, .slice o2 old.kids.length oc2]] X fun e w' => e = .returned (.int .i64 (old.size : Int)) ∧ Below W.heap.size W w' := fun X h => by
            refine (parts_any old.size old _ _ X (Nat.le_refl _) (by have := HSZ.out; have := HZA.out.1; have := HZB.out.1; omega) (hN14.up h).2.2).mono ?_
            rintro e w' ⟨rfl, hb⟩
            exact ⟨rfl, below_tr h hb⟩
          have hz1 : IntKind.i64.wrap ((u.size : Int) - (b.size : Int)) = (u.size : Int) - (b.size : Int) := by rw [IntKind.wrap_i64]; have := HSZ.out; have := HZA.out.1; have := HZB.out.1; omega
          have hz2 : IntKind.i64.wrap ((a.size : Int) - (old.size : Int)) = (a.size : Int) - (old.size : Int) := by rw [IntKind.wrap_i64]; have := HSZ.out; have := HZA.out.1; have := HZB.out.1; omega
          have hz3 : ((u.size : Int) - (b.size : Int) == (a.size : Int) - (old.size : Int)) = true := by rw [beq_iff_eq]; have := HSZ.out; omega
          have HS := Lib.hid hS
          have HSx := Lib.hid hSx
          have HSb := Lib.hid hSb
          have HPu := Lib.hid hPu
          have HPb := Lib.hid hPb
          have HPa := Lib.hid hPa
          have HPo := Lib.hid hPo
          have HW14 := Lib.hid hW14
          clear hS hSx hSb hPu hPb hPa hPo hW14 hA14 hB14 hN14 hU14 hX14 hG14
          go_region_held3 (fun X => X.cell? ⟨w11.heap.size, 0, none⟩ = some (.int .u64 (b.num : Int)) ∧ X.cell? ⟨w11.heap.size, 1, none⟩ = some (.bool b.blank) ∧ X.cell? ⟨w11.heap.size, 2, none⟩ = some (.slice ea b.data.length ec) ∧ X.cell? ⟨w11.heap.size, 3, none⟩ = some (.slice e2 b.kids.length ec2) ∧ X.cell? ⟨w.heap.size + 1, 0, none⟩ = some (.int .u64 (b.num : Int)) ∧ X.cell? ⟨w.heap.size + 1, 1, none⟩ = some (.bool b.blank) ∧ X.cell? ⟨w.heap.size + 1, 2, none⟩ = some (.slice sa b.data.length sc) ∧ X.cell? ⟨w.heap.size + 1, 3, none⟩ = some (.slice ra b.kids.length rc) ∧ X.cell? ⟨w13.heap.size, 0, none⟩ = some (.int .u64 (a.num : Int)) ∧ X.cell? ⟨w13.heap.size, 1, none⟩ = some (.bool a.blank) ∧ X.cell? ⟨w13.heap.size, 2, none⟩ = some (.slice ga a.data.length gc) ∧ X.cell? ⟨w13.heap.size, 3, none⟩ = some (.slice g2 a.kids.length gc2) ∧ X.cell? ⟨w.heap.size, 0, none⟩ = some (.int .u64 (a.num : Int)) ∧ X.cell? ⟨w.heap.size, 1, none⟩ = some (.bool a.blank) ∧ X.cell? ⟨w.heap.size, 2, none⟩ = some (.slice ta a.data.length tc) ∧ X.cell? ⟨w.heap.size, 3, none⟩ = some (.slice ua a.kids.length uc) ∧ X.cell? ⟨w8.heap.size, 0, none⟩ = some (.int .u64 (u.num : Int)) ∧ X.cell? ⟨w8.heap.size, 1, none⟩ = some (.bool u.blank) ∧ X.cell? ⟨w8.heap.size, 2, none⟩ = some (.slice na u.data.length nc) ∧ X.cell? ⟨w8.heap.size, 3, none⟩ = some (.slice n2 u.kids.length nc2) ∧ X.cell? ⟨w6.heap.size, 0, none⟩ = some (.int .u64 (old.num : Int)) ∧ X.cell? ⟨w6.heap.size, 1, none⟩ = some (.bool old.blank) ∧ X.cell? ⟨w6.heap.size, 2, none⟩ = some (.slice oa old.data.length oc) ∧ X.cell? ⟨w6.heap.size, 3, none⟩ = some (.slice o2 old.kids.length oc2))
            ((refine HS.out _ ?_; (repeat (first | exact Below.refl _ _ | exact hbW | refine Below.drew ?_))))
            (first
              | (go_at_call 12; with_reducible (refine (HSx.out _ ?_).mono ?_); (focus (repeat (first | exact Below.refl _ _ | exact hbW | refine Below.drew ?_))); rintro e wn ⟨rfl, hbW⟩)
              | (go_at_call 12; with_reducible (refine (HSb.out _ ?_).mono ?_); (focus (repeat (first | exact Below.refl _ _ | exact hbW | refine Below.drew ?_))); rintro e wn ⟨rfl, hbW⟩)
              | (go_at_call 17; with_reducible (refine (HPu.out _ ?_).mono ?_); (focus (repeat (first | exact Below.refl _ _ | exact hbW | refine Below.drew ?_))); rintro e wn ⟨rfl, hbW⟩)
              | (go_at_call 17; with_reducible (refine (HPb.out _ ?_).mono ?_); (focus (repeat (first | exact Below.refl _ _ | exact hbW | refine Below.drew ?_))); rintro e wn ⟨rfl, hbW⟩)
              | (go_at_call 17; with_reducible (refine (HPa.out _ ?_).mono ?_); (focus (repeat (first | exact Below.refl _ _ | exact hbW | refine Below.drew ?_))); rintro e wn ⟨rfl, hbW⟩)
              | (go_at_call 17; with_reducible (refine (HPo.out _ ?_).mono ?_); (focus (repeat (first | exact Below.refl _ _ | exact hbW | refine Below.drew ?_))); rintro e wn ⟨rfl, hbW⟩))
          go_wp2_with fail
          go_ret
          exact ⟨rfl, HW14.out.trans (hbW.mono HW14.out.size)⟩

theorem TreePuts_walk {H : Type} {enc : TypeId × Value → H} {W : World} (base : Nat) (v : Value) (d : DataW H) (p : List MemPlace) (hok : Value.okWide Try.prog W .any base 26 v) (h : DataW.Trod enc Try.prog W 0 (fun _ => true) true 26 v d p)
    (base' : Nat) (v' : Value) (d' : DataW H) (p' : List MemPlace) (hok' : Value.okWide Try.prog W .any base' 26 v') (h' : DataW.Trod enc Try.prog W 0 (fun _ => true) true 26 v' d' p')
    (a : Option Addr) (len cap : Nat) (zs : List Int) (hr : IsRow .i64 W a len cap zs) (w : World) (hw : w = W) :
    Calls Try.prog 5 #[v, v', .slice a len cap] w fun e w' => e = .returned (.bool true) ∧ Below w.heap.size w w' := by
  subst hw
  obtain ⟨t, dv, kv, rfl, ho, ht⟩ := tree_arg hok h
  obtain ⟨t', dv', kv', rfl, ho', ht'⟩ := tree_arg hok' h'
  obtain ⟨h1, h2, h3, h4⟩ := hr.elems
  have h5 : len ≤ cap ∧ cap ≤ maxLen := by
    rcases hr with ⟨_, rfl, rfl, _⟩ | ⟨_, _, h5, h6, _⟩
    · exact ⟨Nat.le_refl _, by unfold maxLen; omega⟩
    · exact ⟨h5, h6⟩
  exact puts_core t t' dv kv dv' kv' a len cap (zs.take len) w ho ho' ht ht' ⟨h1, h5.1, h5.2, h3, h4⟩
end Go.Proofs.Ytdogiobppeemiaa
