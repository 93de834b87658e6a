/- The law TreeSame: the walk. -/
import Derived.Test.YtdogiobppeemiaaLq
namespace Go.Proofs.Ytdogiobppeemiaa
set_option linter.unusedSimpArgs false
set_option linter.unusedVariables false
open Go.RowKit

/-- The state of the two loops: the copy so far, and what was there before it is as it was. -/
def SpoilSt (B b6 : Nat) (t : Tr) (dv kv : Value) (w0 wr : World) : Prop :=
  b6 < wr.heap.size ∧ B ≤ b6 ∧ dv.ownBlock ≠ some b6 ∧ kv.ownBlock ≠ some b6 ∧ wr.heap[b6]? = some (.cells #[.int .u64 (t.num : Int), .bool t.blank, dv, kv] 26 (0, 0)) ∧ (∃ kxs, Owned B t dv kv kxs wr) ∧ Below B w0 wr

theorem Owned.up {B : Nat} {t : Tr} {dv kv : Value} {kxs : List Value} {w w' : World} (h : Owned B t dv kv kxs w) (hb : Below w.heap.size w w') : Owned B t dv kv kxs w' :=
  ⟨owned_kept h.data (Nat.le_refl _) (fun g hg => hb.block g (owned_lt h.data g hg).2), owned_kept h.kids (Nat.le_refl _) (fun g hg => hb.block g (owned_lt h.kids g hg).2), h.apart,
    C.reps_mono (fun b hb' => ⟨hb'.1, Nat.lt_of_lt_of_le hb'.2.1 hb.size, hb'.2.2⟩) (fun b hb' => hb.block b hb'.2.1) _ _ h.parts⟩

set_option maxRecDepth 8000 in
set_option maxHeartbeats 6400000 in
theorem same_core (a b : Tr) (da ka db kb : Value) (w : World) (oka : a.ok) (okb : b.ok) (hta : TrAt (· < w.heap.size) w a da ka) (htb : TrAt (· < w.heap.size) w b db kb) :
    Calls Try.prog 6 #[.agg #[.int .u64 (a.num : Int), .bool a.blank, da, ka], .agg #[.int .u64 (b.num : Int), .bool b.blank, db, kb]] w fun e w' => e = .returned (.bool true) ∧ Below w.heap.size w w' := by
  obtain ⟨ta, tc, ua, uc, rfl, rfl, _, _, _, _⟩ := hta.form
  obtain ⟨sa, sc, ra, rc, rfl, rfl, _, _, _, _⟩ := htb.form
  have hA : TreeVar w.heap.size a (.slice ta a.data.length tc) (.slice ua a.kids.length uc) ((w.alloc (.cells #[.int .u64 (a.num : Int), .bool a.blank, .slice ta a.data.length tc, .slice ua a.kids.length uc] 26 (0, 0))).alloc (.cells #[.int .u64 (b.num : Int), .bool b.blank, .slice sa b.data.length sc, .slice ra b.kids.length rc] 26 (0, 0))) := (TreeVar.new hta).up (below_al (Below.refl _ _) _)
  have hB : TreeVar (w.heap.size + 1) b (.slice sa b.data.length sc) (.slice ra b.kids.length rc) ((w.alloc (.cells #[.int .u64 (a.num : Int), .bool a.blank, .slice ta a.data.length tc, .slice ua a.kids.length uc] 26 (0, 0))).alloc (.cells #[.int .u64 (b.num : Int), .bool b.blank, .slice sa b.data.length sc, .slice ra b.kids.length rc] 26 (0, 0))) := by
    have := TreeVar.new (htb.up (below_al (Below.refl _ _) (.cells #[.int .u64 (a.num : Int), .bool a.blank, .slice ta a.data.length tc, .slice ua a.kids.length uc] 26 (0, 0))))
    rw [size_al] at this
    exact this
  have hw := below_alloc2 w (.cells #[.int .u64 (a.num : Int), .bool a.blank, .slice ta a.data.length tc, .slice ua a.kids.length uc] 26 (0, 0)) (.cells #[.int .u64 (b.num : Int), .bool b.blank, .slice sa b.data.length sc, .slice ra b.kids.length rc] 26 (0, 0))
  have HTA := Lib.hid hta
  have HTB := Lib.hid htb
  have HOA := Lib.hid oka
  have HOB := Lib.hid okb
  have HA := Lib.hid hA
  have HB := Lib.hid hB
  have HW := Lib.hid hw
  clear hta htb oka okb hA hB hw
  obtain ⟨⟨fa, la⟩, hfa⟩ : ∃ r, a.few 300 0 = r := ⟨_, rfl⟩
  have HFA := Lib.hid hfa
  clear hfa
  go_enter Try.func6, Try.ntmps6
  go_wp2_with fail
  refine (texts_any _).mono ?_
  rintro e w1 ⟨rfl, hb1⟩
  have hA1 := HA.out.up hb1
  have hB1 := HB.out.up hb1
  obtain ⟨q0, q1, q2, q3⟩ := hA1.cells
  have hs1 := hA1.1
  have hW1 := HW.out.trans (hb1.mono HW.out.size)
  have hq := fun o => cell_alloc' (w := w1) (o := o) hs1 q0
  have hq1 := fun o => cell_alloc' (w := w1) (o := o) hs1 q1
  have hq2 := fun o => cell_alloc' (w := w1) (o := o) hs1 q2
  have hq3 := fun o => cell_alloc' (w := w1) (o := o) hs1 q3
  have HA1 := Lib.hid hA1
  have HB1 := Lib.hid hB1
  have HW1 := Lib.hid hW1
  clear hb1 hA1 hB1 hW1 q0 q1 q2 q3
  go_wp2_with fail
  clear hq hq1 hq2 hq3
  refine (few_any (left := 300) (HW1.out.trans ((below_al (Below.refl _ _) _).mono HW1.out.size)) HTA.out (by omega) (by omega) w1.heap.size HW1.out.size (heap_new _ _)).mono ?_
  rintro e w2 ⟨rfl, hL, hk⟩
  have hb12 : Below w1.heap.size w1 w2 := (below_al (Below.refl _ _) _).trans (hk.below (Nat.le_refl _) (by rw [size_al]; omega))
  have HA2 := Lib.hid (HA1.out.up hb12)
  have hB2 := HB1.out.up hb12
  obtain ⟨q0, q1, q2, q3⟩ := hB2.cells
  have HB2 := Lib.hid hB2
  have HW2 := Lib.hid (HW1.out.trans (hb12.mono HW1.out.size))
  have HB12 := Lib.hid hb12
  have HL := Lib.hid hL
  clear hk hL hb12 hB2
  rw [HFA.out]
  rcases fa with _ | _
  · clear q0 q1 q2 q3
    go_wp2_with fail
    go_ret
    exact ⟨rfl, HW2.out⟩
  · have hfx := HFA.out
    have hf1 : (a.few 300 0).1 = true := by rw [hfx]
    obtain ⟨z1, z2, z3, z4, z5⟩ := few_facts (left := 300) (by omega) (by omega) hf1
    have z6 := a.deep_le
    rw [hfx] at z1 z2
    simp only at z1 z2
    have HZA := Lib.hid (And.intro z1 (And.intro z2 (And.intro z3 (And.intro z5 z6))))
    have hla : 0 ≤ la ∧ la ≤ 300 := by have := a.size_pos; omega
    have HLA := Lib.hid hla
    obtain ⟨⟨fb, lb⟩, hfb⟩ : ∃ r, b.few la 0 = r := ⟨_, rfl⟩
    have HFB := Lib.hid hfb
    clear z1 z2 z3 z4 z5 z6 hf1 hfx hla hfb
    go_wp2_with fail
    clear q0 q1 q2 q3
    refine (few_any (left := la) HW2.out HTB.out HLA.out.1 (by have := HLA.out.2; omega) w1.heap.size HW1.out.size (by have := HL.out; rw [HFA.out] at this; exact this)).mono ?_
    rintro e w3 ⟨rfl, hL3, hk3⟩
    have hb13 : Below w1.heap.size w1 w3 := HB12.out.trans (hk3.below (Nat.le_refl _) HB12.out.size)
    have HA3 := Lib.hid (HA1.out.up hb13)
    have HB3 := Lib.hid (HB1.out.up hb13)
    have HW3 := Lib.hid (HW1.out.trans (hb13.mono HW1.out.size))
    clear hL3 hk3 hb13
    rw [HFB.out]
    rcases fb with _ | _
    · go_wp2_with fail
      go_ret
      exact ⟨rfl, HW3.out⟩
    · have hfx := HFB.out
      have hf1 : (b.few la 0).1 = true := by rw [hfx]
      obtain ⟨z1, z2, z3, z4, z5⟩ := few_facts (by have := HLA.out.2; omega) HLA.out.1 hf1
      have z6 := b.deep_le
      rw [hfx] at z1 z2
      simp only at z1 z2
      have HZB := Lib.hid (And.intro (show (b.size : Int) ≤ 300 by have := HLA.out.2; omega) (And.intro z3 (And.intro z5 z6)))
      clear z1 z2 z3 z4 z5 z6 hf1 hfx
      have hSa : ∀ X, Below w3.heap.size w3 X → Calls Try.prog 12 #[.agg #[.int .u64 (a.num : Int), .bool a.blank, .slice ta a.data.length tc, .slice ua a.kids.length uc], .agg #[.int .u64 (b.num : Int), .bool b.blank, .slice sa b.data.length sc, .slice ra b.kids.length rc]] X fun e w' => e = .returned (.bool (Tr.same a b)) ∧ Below w3.heap.size w3 w' := fun X h => by
        refine (same_said a.size a b _ _ _ _ X (Nat.le_refl _) HOA.out HOB.out (HA3.out.up h).2.2 (HB3.out.up h).2.2).mono ?_
        rintro e w' ⟨rfl, hb⟩
        exact ⟨rfl, below_tr h hb⟩
      have hTa : ∀ X, Below w3.heap.size w3 X → Calls Try.prog 11 #[.agg #[.int .u64 (a.num : Int), .bool a.blank, .slice ta a.data.length tc, .slice ua a.kids.length uc]] X fun e w' => e = .returned (.string ⟨a.text.toArray⟩) ∧ Below w3.heap.size w3 w' := fun X h => by
        refine (text_any a _ _ X HOA.out (HA3.out.up h).2.2 (by have := HZA.out; omega)).mono ?_
        rintro e w' ⟨rfl, hb⟩
        exact ⟨rfl, below_tr h hb⟩
      have hTb : ∀ X, Below w3.heap.size w3 X → Calls Try.prog 11 #[.agg #[.int .u64 (b.num : Int), .bool b.blank, .slice sa b.data.length sc, .slice ra b.kids.length rc]] X fun e w' => e = .returned (.string ⟨b.text.toArray⟩) ∧ Below w3.heap.size w3 w' := fun X h => by
        refine (text_any b _ _ X HOB.out (HB3.out.up h).2.2 (by have := HZB.out; omega)).mono ?_
        rintro e w' ⟨rfl, hb⟩
        exact ⟨rfl, below_tr h hb⟩
      have hSS : ∀ X, Below w3.heap.size w3 X → X.cell? ⟨w.heap.size, 0, none⟩ = some (.int .u64 (a.num : Int)) ∧ X.cell? ⟨w.heap.size, 1, none⟩ = some (.bool a.blank) ∧ X.cell? ⟨w.heap.size, 2, none⟩ = some (.slice ta a.data.length tc) ∧ X.cell? ⟨w.heap.size, 3, none⟩ = some (.slice ua a.kids.length uc) ∧
          X.cell? ⟨w.heap.size + 1, 0, none⟩ = some (.int .u64 (b.num : Int)) ∧ X.cell? ⟨w.heap.size + 1, 1, none⟩ = some (.bool b.blank) ∧ X.cell? ⟨w.heap.size + 1, 2, none⟩ = some (.slice sa b.data.length sc) ∧ X.cell? ⟨w.heap.size + 1, 3, none⟩ = some (.slice ra b.kids.length rc) :=
        fun X h => ⟨(HA3.out.up h).cells.1, (HA3.out.up h).cells.2.1, (HA3.out.up h).cells.2.2.1, (HA3.out.up h).cells.2.2.2, (HB3.out.up h).cells⟩
      obtain ⟨sm, hsm, hst⟩ : ∃ sm, Tr.same a b = sm ∧ (a.text == b.text) = sm := by
        refine ⟨_, rfl, ?_⟩
        by_cases hab : a = b
        · subst hab; rw [Tr.same_true.2 rfl, beq_self_eq_true]
        · rw [Tr.same_false.2 hab, beq_eq_false_iff_ne]
          intro e
          exact hab (text_inj (Tr.ok_nums a HOA.out) (Tr.ok_nums b HOB.out) (by have := HZA.out; have := HLA.out; omega) (by have := HZB.out; omega) e)
      simp only [hsm] at hSa
      have HSa := Lib.hid hSa
      have HTa := Lib.hid hTa
      have HTb := Lib.hid hTb
      have HSS := Lib.hid hSS
      have HST := Lib.hid hst
      clear hSa hTa hTb hSS hsm hst
      go_upto_region 6 with fail
      go_cut [27] (fun s27 wx => s27 = .bool false ∧ Below w3.heap.size w3 wx)
      case first =>
        go_region_held3 (fun X => X.cell? ⟨w.heap.size, 0, none⟩ = some (.int .u64 (a.num : Int)) ∧ X.cell? ⟨w.heap.size, 1, none⟩ = some (.bool a.blank) ∧ X.cell? ⟨w.heap.size, 2, none⟩ = some (.slice ta a.data.length tc) ∧ X.cell? ⟨w.heap.size, 3, none⟩ = some (.slice ua a.kids.length uc) ∧
            X.cell? ⟨w.heap.size + 1, 0, none⟩ = some (.int .u64 (b.num : Int)) ∧ X.cell? ⟨w.heap.size + 1, 1, none⟩ = some (.bool b.blank) ∧ X.cell? ⟨w.heap.size + 1, 2, none⟩ = some (.slice sa b.data.length sc) ∧ X.cell? ⟨w.heap.size + 1, 3, none⟩ = some (.slice ra b.kids.length rc))
          ((refine HSS.out _ ?_; (repeat (first | exact Below.refl _ _ | exact hbW | refine Below.drew ?_))))
          (first
            | (go_at_call 12; with_reducible (refine (HSa.out _ ?_).mono ?_); (focus (repeat (first | exact Below.refl _ _ | exact hbW | refine Below.drew ?_))); rintro e wn ⟨rfl, hbW⟩)
            | (go_at_call 11; with_reducible (refine (HTa.out _ ?_).mono ?_); (focus (repeat (first | exact Below.refl _ _ | exact hbW | refine Below.drew ?_))); rintro e wn ⟨rfl, hbW⟩)
            | (go_at_call 11; with_reducible (refine (HTb.out _ ?_).mono ?_); (focus (repeat (first | exact Below.refl _ _ | exact hbW | refine Below.drew ?_))); rintro e wn ⟨rfl, hbW⟩))
        go_wp2_with fail
        go_meet
        refine ⟨?_, hbW⟩
        rw [HST.out]
        cases sm <;> rfl
      case rest =>
        obtain ⟨rfl, hbx⟩ := hcut
        have hA4 := HA3.out.up hbx
        obtain ⟨q0, q1, q2, q3⟩ := hA4.cells
        have HA4 := Lib.hid hA4
        have HW4 := Lib.hid (HW3.out.trans (hbx.mono HW3.out.size))
        clear hA4 hbx
        go_wp2_with fail
        clear q0 q1 q2 q3
        refine (clone_said a.size a _ _ _ (Nat.le_refl _) HZA.out.2.2.1 HA4.out.2.2).mono ?_
        rintro e w5 ⟨dv, kv, kxs, rfl, hown, hb5⟩
        obtain ⟨va, vc, rfl⟩ := owned_form hown.data
        obtain ⟨xa, xc, rfl⟩ := owned_form hown.kids
        have hst5 : SpoilSt wc.heap.size w5.heap.size a (.slice va a.data.length vc) (.slice xa a.kids.length xc) wc (w5.alloc (.cells #[.int .u64 (a.num : Int), .bool a.blank, .slice va a.data.length vc, .slice xa a.kids.length xc] 26 (0, 0))) :=
          ⟨by rw [size_al]; omega, hb5.size, fun e => by have := owned_lt hown.data _ e; omega, fun e => by have := owned_lt hown.kids _ e; omega, heap_new _ _, ⟨kxs, hown.up (below_al (Below.refl _ _) _)⟩, below_al hb5 _⟩
        have HST5 := Lib.hid hst5
        have hC2 := cell_of_heap (j := 2) hst5.2.2.2.2.1
        simp only [List.getElem?_toArray, List.getElem?_cons_succ, List.getElem?_cons_zero] at hC2
        clear hown hb5 hst5
        go_wp2_with fail
        have hdl : a.data.length ≤ 1000000 ∧ a.kids.length ≤ 1000000 := by
          have h1 := HZA.out.2.2.1
          obtain ⟨n, b, d, ks⟩ := a
          rw [Tr.small] at h1
          exact ⟨h1.1, h1.2.1⟩
        have HDL := Lib.hid hdl
        clear hdl
        go_loopw [33] (fun i wr => ∃ j : Nat, j ≤ a.data.length ∧ i = .int .i64 (j : Int) ∧ SpoilSt wc.heap.size w5.heap.size (.node a.num a.blank (mapTo (· + 1) a.data j) a.kids) (.slice va a.data.length vc) (.slice xa a.kids.length xc) wc wr) (fun i _ => a.data.length - (intOf i).toNat)
        case atStart => exact ⟨0, Nat.zero_le _, rfl, by rw [mapTo_zero, show Tr.node a.num a.blank a.data a.kids = a from by cases a; rfl]; exact HST5.out⟩
        case round =>
          obtain ⟨j, hj, rfl, hst⟩ := hrel
          have hC2 := cell_of_heap (j := 2) hst.2.2.2.2.1
          simp only [List.getElem?_toArray, List.getElem?_cons_succ, List.getElem?_cons_zero] at hC2
          have hml : a.data.length ≤ 9223372036854775807 := by have := HDL.out.1; omega
          by_cases hlt : j < a.data.length
          · have i0 : (0 : Int) ≤ (j : Int) := by omega
            have i1 : (j : Int) < (a.data.length : Int) := by omega
            obtain ⟨s1, s2, s3, s4, s5, ⟨kx, hown⟩, s7⟩ := hst
            obtain ⟨g, cap, hv, hg1, hg2, hg3, hg4, hfz, hcell⟩ := ownBlock_some hown.data (by simp only [mapTo_length]; omega)
            simp only [mapTo_length, Value.slice.injEq, true_and] at hv
            obtain ⟨rfl, rfl⟩ := hv
            obtain ⟨x, hx⟩ : ∃ x, a.data[j] = x := ⟨_, rfl⟩
            have hcx : wr.cell? ⟨g, j, none⟩ = some (.int .u8 (x.toNat : Int)) := by
              rw [hcell j (by simp only [mapTo_length]; omega)]
              show ((mapTo (· + 1) a.data j).map byteV)[j]? = _
              rw [List.getElem?_map, mapTo_at _ _ _ hlt, hx]; rfl
            have hfz' := hfz j
            have HWR : Hid (((x + 1).toNat : Int) = ((x.toNat : Int) + 1) % 256) := by
              have e : (x + 1).toNat = (x.toNat + 1) % 256 := by simp
              show ((x + 1).toNat : Int) = _
              rw [e]; omega
            have hst2 : SpoilSt wc.heap.size w5.heap.size (.node a.num a.blank (mapTo (· + 1) a.data (j + 1)) a.kids) (.slice (some ⟨g, 0, none⟩) a.data.length vc) (.slice xa a.kids.length xc) wc (wr.setCell ⟨g, j, none⟩ (.int .u8 ((x + 1).toNat : Int))) := by
              have hgb : g ≠ w5.heap.size := fun e => s3 (by rw [e]; rfl)
              have h1 := hown.byte (g := g) rfl j (by rw [mapTo_length]; exact hlt) (x + 1)
              rw [← hx, mapTo_set _ _ _ hlt, hx] at h1
              exact ⟨by simp [World.setCell]; exact s1, s2, s3, s4, by rw [heap_setCell_ne (fun e => hgb e.symm)]; exact s5, ⟨kx, h1⟩, s7.setCell hg1 _⟩
            have HST := Lib.hid hst2
            clear hst2 hown hcell s5 s7 hx hfz hg1 hg2 hg3 hg4
            go_wp2_with fail
            refine ⟨⟨j + 1, hlt, rfl, ?_⟩, by simp [intOf]; omega⟩
            rw [← HWR.out]; exact HST.out
          · have hjl : j = a.data.length := by omega
            have hC3 := cell_of_heap (j := 3) hst.2.2.2.2.1
            simp only [List.getElem?_toArray, List.getElem?_cons_succ, List.getElem?_cons_zero] at hC3
            rw [mapTo_full _ _ _ hjl] at hst
            have HST0 := Lib.hid hst
            clear hst hjl hC2
            go_wp2_with fail
            clear hC3 hml
            go_loopw [47] (fun i wr => ∃ j : Nat, j ≤ a.kids.length ∧ i = .int .i64 (j : Int) ∧ SpoilSt wc.heap.size w5.heap.size (.node a.num a.blank (a.data.map (· + 1)) (mapTo bump a.kids j)) (.slice va a.data.length vc) (.slice xa a.kids.length xc) wc wr) (fun i _ => a.kids.length - (intOf i).toNat)
            case atStart => exact ⟨0, Nat.zero_le _, rfl, by rw [mapTo_zero]; exact HST0.out⟩
            case round =>
              obtain ⟨j, hj, rfl, hst⟩ := hrel
              have hC3 := cell_of_heap (j := 3) hst.2.2.2.2.1
              simp only [List.getElem?_toArray, List.getElem?_cons_succ, List.getElem?_cons_zero] at hC3
              have hml : a.kids.length ≤ 9223372036854775807 := by have := HDL.out.2; omega
              by_cases hlt : j < a.kids.length
              · have i0 : (0 : Int) ≤ (j : Int) := by omega
                have i1 : (j : Int) < (a.kids.length : Int) := by omega
                obtain ⟨s1, s2, s3, s4, s5, ⟨kx, hown⟩, s7⟩ := hst
                obtain ⟨g, cap, hv, hg1, hg2, hg3, hg4, hfz, hcell⟩ := ownBlock_some hown.kids (by simp only [mapTo_length]; omega)
                simp only [mapTo_length, Value.slice.injEq, true_and] at hv
                obtain ⟨rfl, rfl⟩ := hv
                obtain ⟨x, hx⟩ : ∃ x, a.kids[j] = x := ⟨_, rfl⟩
                have hjj : j < (mapTo bump a.kids j).length := by rw [mapTo_length]; exact hlt
                have hxj : (mapTo bump a.kids j)[j] = x := by
                  have := mapTo_at bump a.kids j hlt
                  rw [List.getElem?_eq_getElem hjj, hx] at this
                  exact Option.some.inj this
                have hcx : wr.cell? ⟨g, j * 4, none⟩ = some (.int .u64 (x.num : Int)) := by
                  rw [hcell (j * 4) (by simp only [mapTo_length]; omega)]
                  obtain ⟨hl, hh⟩ : ∃ (hl : j * 4 < (Tr.cs (mapTo bump a.kids j)).length), (Tr.cs (mapTo bump a.kids j))[j * 4]? = some (.val (.int .u64 (x.num : Int))) := by
                    have h1 := Tr.cs_at (mapTo bump a.kids j) j 0 hjj (by omega)
                    rw [hxj] at h1
                    exact ⟨by rw [Tr.cs_length]; omega, by rw [Nat.add_zero] at h1; rw [h1]; cases x; rfl⟩
                  have hkl := C.reps_length hown.parts
                  have h3 := C.reps_at hown.parts (j * 4) hl (by have : (Tr.cs (mapTo bump a.kids j)).length = kx.length := hkl; omega)
                  have h4 : (Tr.cs (mapTo bump a.kids j))[j * 4] = .val (.int .u64 (x.num : Int)) := (List.getElem?_eq_some_iff.1 hh).2
                  have h5 : (C.val (.int .u64 (x.num : Int))).rep _ wr _ := h4 ▸ h3
                  rw [C.rep] at h5
                  rw [List.getElem?_eq_getElem (by have : (Tr.cs (mapTo bump a.kids j)).length = kx.length := hkl; omega), h5]
                have hfz' := hfz (j * 4)
                have HWR : Hid (((bump x).num : Int) = IntKind.u64.wrap ((x.num : Int) + 1)) := by
                  show ((bump x).num : Int) = _
                  rw [IntKind.wrap_u64]
                  cases x; simp only [bump]; omega
                have hst2 : SpoilSt wc.heap.size w5.heap.size (.node a.num a.blank (a.data.map (· + 1)) (mapTo bump a.kids (j + 1))) (.slice va a.data.length vc) (.slice (some ⟨g, 0, none⟩) a.kids.length xc) wc (wr.setCell ⟨g, j * 4, none⟩ (.int .u64 ((bump x).num : Int))) := by
                  have hgb : g ≠ w5.heap.size := fun e => s4 (by rw [e]; rfl)
                  have h1 := hown.num (g := g) rfl j hjj
                  rw [hxj] at h1
                  have e2 : (mapTo bump a.kids j).set j (bump x) = mapTo bump a.kids (j + 1) := by rw [← hx]; exact mapTo_set _ _ _ hlt
                  rw [e2] at h1
                  exact ⟨by simp [World.setCell]; exact s1, s2, s3, s4, by rw [heap_setCell_ne (fun e => hgb e.symm)]; exact s5, ⟨_, h1⟩, s7.setCell hg1 _⟩
                have HST := Lib.hid hst2
                clear hst2 hown hcell s5 s7 hx hfz hg1 hg2 hg3 hg4 hxj hjj
                go_wp2_with fail
                refine ⟨⟨j + 1, hlt, rfl, ?_⟩, by simp [intOf]; omega⟩
                rw [← HWR.out]; exact HST.out
              · have hjl : j = a.kids.length := by omega
                rw [mapTo_full _ _ _ hjl] at hst
                have hbl := hst.2.2.2.2.2.2
                have hA6 := HA4.out.up hbl
                obtain ⟨q0, q1, q2, q3⟩ := hA6.cells
                have hC := fun j => cell_of_heap (j := j) hst.2.2.2.2.1
                have C0 := hC 0
                have C1 := hC 1
                have C2 := hC 2
                simp only [List.getElem?_toArray, List.getElem?_cons_succ, List.getElem?_cons_zero] at C0 C1 C2
                have HST := Lib.hid hst
                have HA6 := Lib.hid hA6
                have HW6 := Lib.hid (HW4.out.trans (hbl.mono HW4.out.size))
                have hdl2 := HDL.out
                clear hst hjl hC hA6 hbl
                by_cases hz : a.data.length + a.kids.length = 0
                · have hz1 : (a.data.length : Int) + (a.kids.length : Int) = 0 := by omega
                  go_wp2_with fail
                  go_ret
                  exact ⟨rfl, HW6.out⟩
                · have hz1 : ((a.data.length : Int) + (a.kids.length : Int) == 0) = false := by rw [beq_eq_false_iff_ne]; omega
                  have hsp : spoilt a = .node a.num a.blank (a.data.map (· + 1)) (a.kids.map bump) := by cases a; rfl
                  have hok2 := spoilt_ok a HOA.out
                  have hne2 := spoilt_ne a HOA.out hz
                  rw [hsp] at hok2 hne2
                  have HN := Lib.hid (And.intro hok2 (Tr.same_false.2 hne2))
                  clear hsp hok2 hne2 hz
                  go_wp2_with fail
                  clear q0 q1 q2 q3 C0 C1 C2
                  obtain ⟨kx, hown⟩ := HST.out.2.2.2.2.2.1
                  refine (same_said a.size a (.node a.num a.blank (a.data.map (· + 1)) (a.kids.map bump)) _ _ _ _ _ (Nat.le_refl _) HOA.out HN.out.1 HA6.out.2.2 hown.at_).mono ?_
                  rintro e w7 ⟨rfl, hb7⟩
                  have HB7 := Lib.hid (HW6.out.trans (hb7.mono HW6.out.size))
                  have hsm := HN.out.2
                  clear hb7 hown
                  go_wp2_with fail
                  go_ret
                  exact ⟨rfl, HB7.out⟩

theorem TreeSame_walk {H : Type} {enc : TypeId × Value → H} {W : World} (base : Nat) (v : Value) (d : DataW H) (p : List MemPlace) (hok : Value.okWide Try.prog W .any base 26 v) (h : DataW.Trod enc Try.prog W 0 (fun _ => true) true 26 v d p)
    (base' : Nat) (v' : Value) (d' : DataW H) (p' : List MemPlace) (hok' : Value.okWide Try.prog W .any base' 26 v') (h' : DataW.Trod enc Try.prog W 0 (fun _ => true) true 26 v' d' p') (w : World) (hw : w = W) :
    Calls Try.prog 6 #[v, v'] w fun e w' => e = .returned (.bool true) ∧ Below w.heap.size w w' := by
  subst hw
  obtain ⟨t, dv, kv, rfl, ho, ht⟩ := tree_arg hok h
  obtain ⟨t', dv', kv', rfl, ho', ht'⟩ := tree_arg hok' h'
  exact same_core t t' dv kv dv' kv' w ho ho' ht ht'
end Go.Proofs.Ytdogiobppeemiaa
