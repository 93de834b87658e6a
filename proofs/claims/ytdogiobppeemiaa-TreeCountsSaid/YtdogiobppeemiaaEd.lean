/- The law TreeCounts: the walk. -/
import Derived.Test.YtdogiobppeemiaaEc
namespace Go.Proofs.Ytdogiobppeemiaa
set_option linter.unusedSimpArgs false
set_option linter.unusedVariables false
open Go.RowKit

def CInv (w : World) (ks : List Tr) (i d p : Value) (wr : World) : Prop :=
  ∃ j : Nat, j ≤ ks.length ∧ i = .int .i64 (j : Int) ∧ d = .int .i64 (Tr.deeps (ks.take j) : Int) ∧ p = .int .i64 (Tr.sizes (ks.take j) : Int) ∧ Below w.heap.size w wr
theorem CInv.next {w w2 : World} {ks : List Tr} {j : Nat} {d p : Value} (hlt : j < ks.length) (hd : d = .int .i64 ((max (Tr.deeps (ks.take j)) ks[j].deep : Nat) : Int)) (hp : p = .int .i64 ((Tr.sizes (ks.take j) : Int) + (ks[j].size : Int))) (hb : Below w.heap.size w w2) :
    CInv w ks (.int .i64 ((j : Int) + 1)) d p w2 := by
  refine ⟨j + 1, hlt, rfl, ?_, ?_, hb⟩
  · rw [hd, Tr.deeps_take ks j hlt]
  · rw [hp, Tr.sizes_take ks j hlt]; simp

set_option maxRecDepth 40000 in
set_option maxHeartbeats 6400000 in
theorem counts_core (t : Tr) (stop : Int) (dv kv : Value) (w : World) (hstop : (Lit.int .i64 stop).wf = true) (hok : t.ok) (ht : TrAt (· < w.heap.size) w t dv kv) :
    Calls Try.prog 7 #[.agg #[.int .u64 (t.num : Int), .bool t.blank, dv, kv], .int .i64 stop] w fun e w' => e = .returned (.bool true) ∧ Below w.heap.size w w' := by
  obtain ⟨ta, tc, ua, uc, rfl, rfl, _, _, _, _⟩ := ht.form
  have hmf : ∀ (fn : Fn) (first cap : Array Value) (w : World), (Instr.makeFunc fn first cap).run Try.prog w = .ok (.func fn first cap) w := fun _ _ _ _ => rfl
  have hV : TreeVar w.heap.size t (.slice ta t.data.length tc) (.slice ua t.kids.length uc) ((w.alloc (.cells #[.int .u64 (t.num : Int), .bool t.blank, .slice ta t.data.length tc, .slice ua t.kids.length uc] 26 (0, 0))).alloc (.cells #[.int .i64 stop] 3 (0, 0))) := (TreeVar.new ht).up (below_al (Below.refl _ _) _)
  have hS : ((w.alloc (.cells #[.int .u64 (t.num : Int), .bool t.blank, .slice ta t.data.length tc, .slice ua t.kids.length uc] 26 (0, 0))).alloc (.cells #[.int .i64 stop] 3 (0, 0))).heap[w.heap.size + 1]? = some (.cells #[.int .i64 stop] 3 (0, 0)) := heap_two _ _ _
  have hW := below_alloc2 w (.cells #[.int .u64 (t.num : Int), .bool t.blank, .slice ta t.data.length tc, .slice ua t.kids.length uc] 26 (0, 0)) (.cells #[.int .i64 stop] 3 (0, 0))
  have hWs : w.heap.size + 2 ≤ ((w.alloc (.cells #[.int .u64 (t.num : Int), .bool t.blank, .slice ta t.data.length tc, .slice ua t.kids.length uc] 26 (0, 0))).alloc (.cells #[.int .i64 stop] 3 (0, 0))).heap.size := by rw [size_al, size_al]; omega
  obtain ⟨g1, g2⟩ := bounds_i64 hstop
  have HG := Lib.hid (And.intro g1 g2)
  have HT := Lib.hid ht
  have HO := Lib.hid hok
  have HV := Lib.hid hV
  have HS := Lib.hid hS
  have HW := Lib.hid (And.intro hW hWs)
  clear ht hok hV hS hW hWs hstop g1 g2
  obtain ⟨⟨fa, la⟩, hfa⟩ : ∃ r, t.few 300 0 = r := ⟨_, rfl⟩
  have HFA := Lib.hid hfa
  clear hfa
  go_enter Try.func7, Try.ntmps7
  go_wp2_with fail
  refine (texts_any _).mono ?_
  rintro e w1 ⟨rfl, hb1⟩
  have hV1 := HV.out.up hb1
  have hsz1 : w.heap.size + 2 ≤ w1.heap.size := Nat.le_trans HW.out.2 hb1.size
  have hS1 := (hb1.block (w.heap.size + 1) (by have := HW.out.2; omega)).trans HS.out
  obtain ⟨q0, q1, q2, q3⟩ := hV1.cells
  have hs1 := hV1.1
  have hW1 := HW.out.1.trans (hb1.mono HW.out.1.size)
  have hq := fun o => cell_alloc' (w := w1) (o := o) hs1 q0
  have hq1 := fun o => cell_alloc' (w := w1) (o := o) hs1 q1
  have hq2 := fun o => cell_alloc' (w := w1) (o := o) hs1 q2
  have hq3 := fun o => cell_alloc' (w := w1) (o := o) hs1 q3
  have HV1 := Lib.hid hV1
  have HS1 := Lib.hid hS1
  have HZ1 := Lib.hid hsz1
  have HW1 := Lib.hid hW1
  clear hb1 hV1 hS1 hsz1 hW1 q0 q1 q2 q3
  go_wp2_with fail
  clear hq hq1 hq2 hq3
  refine (few_any (left := 300) (HW1.out.trans ((below_al (Below.refl _ _) _).mono HW1.out.size)) HT.out (by omega) (by omega) w1.heap.size HW1.out.size (heap_new _ _)).mono ?_
  rintro e w2 ⟨rfl, hL, hk⟩
  have hb12 : Below w1.heap.size w1 w2 := (below_al (Below.refl _ _) _).trans (hk.below (Nat.le_refl _) (by rw [size_al]; omega))
  have hV2 := HV1.out.up hb12
  have HS2 := Lib.hid ((hb12.block (w.heap.size + 1) (by have := HZ1.out; omega)).trans HS1.out)
  have HW2 := Lib.hid (HW1.out.trans (hb12.mono HW1.out.size))
  have HZ2 := Lib.hid (Nat.le_trans HZ1.out hb12.size)
  have hV2a : ∀ o, TreeVar w.heap.size t (.slice ta t.data.length tc) (.slice ua t.kids.length uc) (w2.alloc o) := fun o => hV2.up (below_al (Below.refl _ _) o)
  have q0 := fun o => (hV2a o).cells.1
  have q1 := fun o => (hV2a o).cells.2.1
  have q2 := fun o => (hV2a o).cells.2.2.1
  have q3 := fun o => (hV2a o).cells.2.2.2
  have HV2 := Lib.hid hV2
  clear hk hL hb12 hV2 hV2a
  rw [HFA.out]
  rcases fa with _ | _
  · clear q0 q1 q2 q3
    go_wp2_with fail
    go_ret
    exact ⟨rfl, HW2.out⟩
  · have hfx := HFA.out
    have hf1 : (t.few 300 0).1 = true := by rw [hfx]
    obtain ⟨z1, z2, z3, z4, z5⟩ := few_facts (left := 300) (by omega) (by omega) hf1
    have z6 := t.deep_le
    rw [hfx] at z1 z2
    simp only at z1 z2
    have HZA := Lib.hid (And.intro (show t.size ≤ 300 by omega) z6)
    clear z1 z2 z3 z4 z5 z6 hf1 hfx
    go_wp2_with fail
    clear q0 q1 q2 q3
    refine (each_said1 (.pointer (some ⟨w2.heap.size, 0, none⟩)) (fun _ => true) w2.heap.size (w2.alloc (.cells #[.int .i64 0] 3 (0, 0))) (yields_one _ _) t.size t _ _ w.heap.size 0 _ (Nat.le_refl _) (by omega) (by have := HZA.out.1; omega) HW2.out.size (Kept.refl _ _) (HT.out.below (HW2.out.trans ((below_al (Below.refl _ _) _).mono HW2.out.size))) (heap_new _ _)).mono ?_
    rintro e w3 ⟨he, hc3, hk3⟩
    rw [Tr.each_all, Int.zero_add] at he hc3
    obtain rfl : e = .returned (.bool true) := he
    have hb23 : Below w2.heap.size w2 w3 := (below_al (Below.refl _ _) _).trans (hk3.below (Nat.le_refl _) (by rw [size_al]; omega))
    have hV3 := HV2.out.up hb23
    have HS3 := Lib.hid ((hb23.block (w.heap.size + 1) (by have := HZ2.out; omega)).trans HS2.out)
    have HW3 := Lib.hid (HW2.out.trans (hb23.mono HW2.out.size))
    have HN3 := Lib.hid hc3
    have HV3 := Lib.hid hV3
    have HZ3 := Lib.hid (show w2.heap.size < w3.heap.size from cell_lt (cell_of_heap (j := 0) hc3))
    obtain ⟨q0, q1, q2, q3⟩ := hV3.cells
    clear hk3 hc3 hb23 hV3
    obtain ⟨a, cap, e, h1, h2, _, hks⟩ := kids_form HT.out.kids
    simp only [Value.slice.injEq] at e
    obtain ⟨rfl, _, rfl⟩ := e
    have hml : t.kids.length ≤ 9223372036854775807 := by unfold maxLen at h2; omega
    have hsz : t.size = 1 + Tr.sizes t.kids ∧ t.deep = Tr.deeps t.kids + 1 := by cases t; rw [Tr.size, Tr.deep]; exact ⟨rfl, rfl⟩
    have HSZ := Lib.hid hsz
    have HK := Lib.hid hks
    clear h1 h2 hks hsz
    go_wp2_with fail
    clear q0 q1 q2 q3
    go_loopw [25, 7, 8] (fun i d p wr => CInv w3 t.kids i d p wr) (fun i _ _ _ => t.kids.length - (intOf i).toNat)
    case atStart => exact ⟨0, by omega, rfl, by simp [Tr.deeps], by simp [Tr.sizes], Below.refl _ _⟩
    case round =>
      obtain ⟨j, hj, rfl, rfl, rfl, hb⟩ := hrel
      by_cases hlt : j < t.kids.length
      · obtain ⟨g, off, rfl, hg, hc⟩ := HK.out.resolve_left (by intro h; rw [h] at hlt; simp at hlt)
        obtain ⟨dv', kv', c0, c1, c2, c3, ht'⟩ := hc j hlt
        have hbw : Below w.heap.size w wr := HW3.out.trans (hb.mono HW3.out.size)
        rw [← hbw.cell (p := ⟨g, _, none⟩) hg] at c0 c1 c2 c3
        have hle := Tr.sizes_at j hlt
        have hle2 := Tr.sizes_take_le t.kids j
        have hld := Tr.deeps_le (t.kids.take j)
        have hjd := t.kids[j].deep_le
        have h300 := HZA.out.1
        have hsz := HSZ.out.1
        have HNX := Lib.hid (fun (w4 : World) (d p : Value) hd hp hb4 => CInv.next (w := w3) (w2 := w4) (d := d) (p := p) hlt hd hp hb4)
        obtain ⟨ad', cd', ak', ck', rfl, rfl, _, _, _, _⟩ := ht'.form
        have HT' := Lib.hid (ht'.up hbw)
        have HBR := Lib.hid hb
        have HCC := Lib.hid hc
        clear ht' hc hb hbw hsz
        generalize t.kids[j] = t' at *
        have hsd : (Tr.sizes (t.kids.take j) : Int) ≤ 300 ∧ (Tr.deeps (t.kids.take j) : Int) ≤ 300 ∧ (t'.size : Int) ≤ 300 ∧ (t'.deep : Int) ≤ 300 := by have := HSZ.out.1; omega
        obtain ⟨r1, r2, r3, r4⟩ := hsd
        go_wp2_with fail
        refine (parts_any t'.size t' _ _ _ (Nat.le_refl _) (by omega) (HT'.out.up (below_al (Below.refl _ _) _))).mono ?_
        rintro e w4 ⟨rfl, hb4⟩
        have hbx : Below wr.heap.size wr w4 := below_tr (below_al (Below.refl _ _) _) hb4
        have hV4 := (TreeVar.new (HT'.out)).up hb4
        obtain ⟨p0, p1, p2, p3⟩ := hV4.cells
        have HV4 := Lib.hid hV4
        have HBX := Lib.hid hbx
        clear hb4 hbx hV4
        go_wp2_with fail
        clear p0 p1 p2 p3
        refine (depth_any t'.size t' _ _ _ (Nat.le_refl _) (by omega) HV4.out.2.2).mono ?_
        rintro e w5 ⟨rfl, hb5⟩
        have HB5 := Lib.hid (HBR.out.trans ((HBX.out.trans (hb5.mono HBX.out.size)).mono HBR.out.size))
        clear hb5
        go_wp2_with fail
        refine ⟨HNX.out _ _ _ ?_ rfl HB5.out, by simp [intOf]; omega⟩
        congr 1; first | omega | (go_goals; sorry)
      · have hjl : j = t.kids.length := by omega
        have htk : t.kids.take j = t.kids := by rw [hjl, List.take_length]
        have hV5 := HV3.out.up hb
        have HV5 := Lib.hid hV5
        have hN5 := (hb.block w2.heap.size HZ3.out).trans HN3.out
        have HS5 := Lib.hid ((hb.block (w.heap.size + 1) (by have := HZ2.out; have := HZ3.out; omega)).trans HS3.out)
        have HW5 := Lib.hid (HW3.out.trans (hb.mono HW3.out.size))
        have HZ5 := Lib.hid (Nat.lt_of_lt_of_le HZ3.out hb.size)
        have HTK := Lib.hid htk
        have hz1 : IntKind.i64.wrap ((Tr.sizes t.kids : Int) + 1) = (t.size : Int) := by rw [IntKind.wrap_i64]; have := HSZ.out.1; have := HZA.out.1; omega
        have hz2 : IntKind.i64.wrap ((Tr.deeps t.kids : Int) + 1) = (t.deep : Int) := by rw [IntKind.wrap_i64]; have := HSZ.out; have := HZA.out; omega
        have hPa : ∀ X, Below wr.heap.size wr X → Calls Try.prog 17 #[.agg #[.int .u64 (t.num : Int), .bool t.blank, .slice ta t.data.length tc, .slice ua t.kids.length uc]] X fun e w' => e = .returned (.int .i64 (t.size : Int)) ∧ Below wr.heap.size wr w' := fun X h => by
          refine (parts_any t.size t _ _ X (Nat.le_refl _) (by have := HZA.out.1; omega) (HV5.out.up h).2.2).mono ?_
          rintro e w' ⟨rfl, hb⟩
          exact ⟨rfl, below_tr h hb⟩
        have hDe : ∀ X, Below wr.heap.size wr X → Calls Try.prog 13 #[.agg #[.int .u64 (t.num : Int), .bool t.blank, .slice ta t.data.length tc, .slice ua t.kids.length uc]] X fun e w' => e = .returned (.int .i64 (t.deep : Int)) ∧ Below wr.heap.size wr w' := fun X h => by
          refine (depth_any t.size t _ _ X (Nat.le_refl _) (by have := HZA.out.1; omega) (HV5.out.up h).2.2).mono ?_
          rintro e w' ⟨rfl, hb⟩
          exact ⟨rfl, below_tr h hb⟩
        have hSS : ∀ X, Below wr.heap.size wr X → X.cell? ⟨w.heap.size, 0, none⟩ = some (.int .u64 (t.num : Int)) ∧ X.cell? ⟨w.heap.size, 1, none⟩ = some (.bool t.blank) ∧ X.cell? ⟨w.heap.size, 2, none⟩ = some (.slice ta t.data.length tc) ∧ X.cell? ⟨w.heap.size, 3, none⟩ = some (.slice ua t.kids.length uc) ∧ X.cell? ⟨w2.heap.size, 0, none⟩ = some (.int .i64 (t.size : Int)) :=
          fun X h => ⟨(HV5.out.up h).cells.1, (HV5.out.up h).cells.2.1, (HV5.out.up h).cells.2.2.1, (HV5.out.up h).cells.2.2.2, cell_of_heap ((h.block w2.heap.size HZ5.out).trans hN5)⟩
        have HPa := Lib.hid hPa
        have HDe := Lib.hid hDe
        have HSS := Lib.hid hSS
        have HN5 := Lib.hid hN5
        rw [htk]
        clear hPa hDe hSS hN5 hV5 hb hjl htk
        go_upto_region 14 with fail
        go_region_held3 (fun X => X.cell? ⟨w.heap.size, 0, none⟩ = some (.int .u64 (t.num : Int)) ∧ X.cell? ⟨w.heap.size, 1, none⟩ = some (.bool t.blank) ∧ X.cell? ⟨w.heap.size, 2, none⟩ = some (.slice ta t.data.length tc) ∧ X.cell? ⟨w.heap.size, 3, none⟩ = some (.slice ua t.kids.length uc) ∧ X.cell? ⟨w2.heap.size, 0, none⟩ = some (.int .i64 (t.size : Int)))
          ((refine HSS.out _ ?_; (repeat (first | exact Below.refl _ _ | exact hbW | refine Below.drew ?_))))
          (first
            | (go_at_call 17; with_reducible (refine (HPa.out _ ?_).mono ?_); (focus (repeat (first | exact Below.refl _ _ | exact hbW | refine Below.drew ?_))); rintro e wn ⟨rfl, hbW⟩)
            | (go_at_call 13; with_reducible (refine (HDe.out _ ?_).mono ?_); (focus (repeat (first | exact Below.refl _ _ | exact hbW | refine Below.drew ?_))); rintro e wn ⟨rfl, hbW⟩))
        have hV6 := HV5.out.up hbW
        have hN6 := (hbW.block w2.heap.size HZ5.out).trans HN5.out
        have hS6 := (hbW.block (w.heap.size + 1) (by have := HZ2.out; have := HZ5.out; omega)).trans HS5.out
        have HW6 := Lib.hid (HW5.out.trans (hbW.mono HW5.out.size))
        have HZ6 := Lib.hid (Nat.lt_of_lt_of_le HZ5.out hbW.size)
        have hV6a : ∀ o, TreeVar w.heap.size t (.slice ta t.data.length tc) (.slice ua t.kids.length uc) (wn.alloc o) := fun o => hV6.up (below_al (Below.refl _ _) o)
        have q0 := fun o => (hV6a o).cells.1
        have q1 := fun o => (hV6a o).cells.2.1
        have q2 := fun o => (hV6a o).cells.2.2.1
        have q3 := fun o => (hV6a o).cells.2.2.2
        have hW7 : Below w.heap.size w (wn.alloc (.cells #[.int .i64 0] 3 (0, 0))) := HW6.out.trans ((below_al (Below.refl _ _) _).mono HW6.out.size)
        have hS7 := (heap_old (w := wn) (.cells #[.int .i64 0] 3 (0, 0)) (show w.heap.size + 1 < wn.heap.size by have := HZ2.out; have := HZ6.out; omega)).trans hS6
        have HE := Lib.hid (each_said (.pointer (some ⟨wn.heap.size, 0, none⟩)) (.pointer (some ⟨w.heap.size + 1, 0, none⟩)) (fun m => decide (m < stop)) wn.heap.size _ (yields_two wn.heap.size (w.heap.size + 1) stop _ hS7 (by have := HZ2.out; have := HZ6.out; omega)) t.size t _ _ w.heap.size 0 _ (Nat.le_refl _) (by omega) (by have := HZA.out.1; omega) HW6.out.size (Kept.refl _ _) (HT.out.below hW7) (heap_new wn _))
        have HV6 := Lib.hid hV6
        have HN6 := Lib.hid hN6
        have HS6 := Lib.hid hS6
        clear hbW hV6 hN6 hS6 hV6a hW7 hS7 hz1 hz2
        go_wp2_with fail
        clear q0 q1 q2 q3
        refine (HE.out).mono ?_
        rintro e w7 ⟨he, hc7, hk7⟩
        rw [Tr.each_lt, Int.zero_add, Int.zero_add] at he hc7
        have hb67 : Below wn.heap.size wn w7 := (below_al (Below.refl _ _) _).trans (hk7.below (Nat.le_refl _) (by rw [size_al]; omega))
        have hS8 := (hb67.block (w.heap.size + 1) (by have := HZ2.out; have := HZ6.out; omega)).trans HS6.out
        have hN8 := (hb67.block w2.heap.size HZ6.out).trans HN6.out
        have HW8 := Lib.hid (HW6.out.trans (hb67.mono HW6.out.size))
        have S0 := cell_of_heap (j := 0) hS8
        have N0 := cell_of_heap (j := 0) hN8
        have h1s := t.size_pos
        simp only [List.getElem?_toArray, List.getElem?_cons_zero] at S0 N0
        clear hk7 hb67 hS8 hN8 hmf
        have HH1 := Lib.hid h1s
        by_cases hA : (t.size : Int) < stop
        · rw [if_pos hA] at he hc7
          obtain rfl := he
          have M0 := cell_of_heap (j := 0) hc7
          simp only [List.getElem?_toArray, List.getElem?_cons_zero] at M0
          have a1 : (1 : Int) ≤ stop := by omega
          have hmn : min stop (t.size : Int) = (t.size : Int) := by omega
          clear hc7 h1s
          go_wp2_with fail
          go_ret
          exact ⟨rfl, HW8.out⟩
        · rw [if_neg hA] at he hc7
          obtain rfl := he
          have M0 := cell_of_heap (j := 0) hc7
          simp only [List.getElem?_toArray, List.getElem?_cons_zero] at M0
          clear hc7
          by_cases hC : stop < 1
          · have hmx : max 1 stop = 1 := by omega
            rw [hmx] at M0
            clear hA
            go_wp2_with fail
            go_ret
            exact ⟨rfl, HW8.out⟩
          · have hmx : max 1 stop = stop := by omega
            rw [hmx] at M0
            have a1 : (1 : Int) ≤ stop := by omega
            have a2 : stop ≤ (t.size : Int) := by omega
            have hmn : min stop (t.size : Int) = stop := by omega
            have a3 : decide ((t.size : Int) < stop) = false := by rw [decide_eq_false_iff_not]; omega
            clear hA hC hmx h1s a2
            go_wp2_with fail
            go_ret
            exact ⟨rfl, HW8.out⟩

theorem TreeCounts_walk {H : Type} {enc : TypeId × Value → H} {W : World} (base : Nat) (v : Value) (d : DataW H) (p : List MemPlace) (hok : Value.okWide Try.prog W .any base 26 v) (h : DataW.Trod enc Try.prog W 0 (fun _ => true) true 26 v d p)
    (stop : Int) (hs : (Lit.int .i64 stop).wf = true) (w : World) (hw : w = W) :
    Calls Try.prog 7 #[v, .int .i64 stop] w fun e w' => e = .returned (.bool true) ∧ Below w.heap.size w w' := by
  subst hw
  obtain ⟨t, dv, kv, rfl, ho, ht⟩ := tree_arg hok h
  exact counts_core t stop dv kv w hs ho ht
end Go.Proofs.Ytdogiobppeemiaa
