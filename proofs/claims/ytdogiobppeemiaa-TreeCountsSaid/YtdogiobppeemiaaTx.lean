/- The law's texts: the walk. -/
import Derived.Test.YtdogiobppeemiaaPp
import Derived.Deep.DeepCutAuto
import Derived.Deep.RegionHeld3
namespace Go.Proofs.Ytdogiobppeemiaa
set_option linter.unusedSimpArgs false
set_option linter.unusedVariables false
set_option linter.unnecessarySimpa false
open Go.RowKit

/-- A tree in a variable. -/
def TreeVar (b : Nat) (t : Tr) (dv kv : Value) (wx : World) : Prop :=
  b < wx.heap.size ∧ wx.heap[b]? = some (.cells #[.int .u64 (t.num : Int), .bool t.blank, dv, kv] 26 (0, 0)) ∧ TrAt (· < wx.heap.size) wx t dv kv
theorem TreeVar.up {b : Nat} {t : Tr} {dv kv : Value} {wx wy : World} (h : TreeVar b t dv kv wx) (hb : Below wx.heap.size wx wy) : TreeVar b t dv kv wy :=
  ⟨Nat.lt_of_lt_of_le h.1 hb.size, (hb.block b h.1).trans h.2.1, h.2.2.up hb⟩
theorem TreeVar.new {t : Tr} {dv kv : Value} {w : World} (h : TrAt (· < w.heap.size) w t dv kv) : TreeVar w.heap.size t dv kv (w.alloc (.cells #[.int .u64 (t.num : Int), .bool t.blank, dv, kv] 26 (0, 0))) :=
  ⟨by rw [size_al]; omega, heap_new _ _, h.up (below_al (Below.refl _ _) _)⟩
theorem Owned.at_ {B : Nat} {t : Tr} {dv kv : Value} {kxs : List Value} {w : World} (h : Owned B t dv kv kxs w) : TrAt (· < w.heap.size) w t dv kv := h.tree.weaken (fun _ hb => hb.2)

theorem TreeVar.cells {b : Nat} {t : Tr} {dv kv : Value} {wx : World} (h : TreeVar b t dv kv wx) :
    wx.cell? ⟨b, 0, none⟩ = some (.int .u64 (t.num : Int)) ∧ wx.cell? ⟨b, 1, none⟩ = some (.bool t.blank) ∧ wx.cell? ⟨b, 2, none⟩ = some dv ∧ wx.cell? ⟨b, 3, none⟩ = some kv :=
  ⟨cell_of_heap h.2.1, cell_of_heap h.2.1, cell_of_heap h.2.1, cell_of_heap h.2.1⟩
theorem elems_new {w : World} {k : IntKind} {way : List Int} {vs : List Value} (T : TypeId) (h : vs = way.map (.int k)) : Elems k (w.alloc (.cells vs.toArray T)) (some ⟨w.heap.size, 0, none⟩) way := by
  subst h
  refine .inr ⟨_, _, rfl, by rw [size_al]; omega, fun j hj => ?_⟩
  have := cell_of_heap (j := j) (heap_new w (.cells (way.map (.int k)).toArray T))
  simp [hj] at this ⊢
theorem heap_two (w : World) (A Z : Obj) : ((w.alloc A).alloc Z).heap[w.heap.size + 1]? = some Z := by rw [← size_al w A]; exact heap_new _ _
theorem heap_one (w : World) (A Z : Obj) : ((w.alloc Z).alloc A).heap[w.heap.size]? = some Z := (heap_old _ (by rw [size_al]; omega)).trans (heap_new _ _)
theorem TreeVar.put {X wq : World} {b : Nat} {t : Tr} {dv kv c0 c1 c2 c3 : Value} (htp : TrAt (fun b => X.heap.size ≤ b ∧ b < wq.heap.size) wq t dv kv) (hbq : Below X.heap.size X wq) (hx : X.heap[b]? = some (.cells #[c0, c1, c2, c3] 26 (0, 0))) :
    TreeVar b t dv kv (set4 wq b (.int .u64 (t.num : Int)) (.bool t.blank) dv kv) := by
  have hlt : b < X.heap.size := by
    rcases Nat.lt_or_ge b X.heap.size with h | h
    · exact h
    · rw [Array.getElem?_eq_none h] at hx; simp at hx
  have hs := hbq.size
  refine ⟨by rw [size_set4]; omega, heap_set4 _ _ _ _ ((hbq.block b hlt).trans hx), htp.mono (fun b' hb => by rw [size_set4]; exact hb.2) (fun b' hb => heap_set4_ne _ _ _ _ (by omega))⟩
theorem put_texts {ta ua : Option Addr} {tc uc g : Nat} (W : World) (ht : TrAt (· < W.heap.size) W (xT 5) (.slice ta 0 tc) (.slice ua 3 uc)) (hg : W.cell? ⟨g, 0, none⟩ = some (.int .i64 0)) :
    Calls Try.prog 16 #[.agg #[.int .u64 0, .bool false, .slice ta 0 tc, .slice ua 3 uc], .agg #[.int .u64 7, .bool false, .slice none 0 0, .slice none 0 0], .slice (some ⟨g, 0, none⟩) 1 1] W
      fun e w' => ∃ pa pc qa qc, e = .returned (.tuple #[.agg #[.int .u64 0, .bool false, .slice pa 0 pc, .slice qa 3 qc], .bool true]) ∧ TrAt (fun b => W.heap.size ≤ b ∧ b < w'.heap.size) w' (xT 7) (.slice pa 0 pc) (.slice qa 3 qc) ∧ Below W.heap.size W w' := by
  refine (put_said 1 (xT 5) (.node 7 false [] []) _ _ _ _ (some ⟨g, 0, none⟩) 1 1 [0] W (by simp) (xT_small 5) (by simp [Tr.small, Tr.smalls]) (by rw [xT_size]; omega) (by simp [Tr.size, Tr.sizes]) ht (leaf 7 false) rfl (by omega) (by unfold maxLen; omega) (.inr ⟨g, 0, rfl, cell_lt hg, fun j hj => ?_⟩) (by decide)).mono ?_
  · obtain rfl : j = 0 := by simp at hj; omega
    exact hg
  · rintro e w' ⟨hb, ⟨u, dv, kv, hu, ht', rfl⟩ | ⟨hu, _⟩⟩
    · rw [xT_put] at hu
      simp only [Option.some.injEq] at hu
      subst hu
      obtain ⟨pa, pc, qa, qc, rfl, rfl, _, _, _, _⟩ := ht'.form
      exact ⟨_, _, _, _, rfl, ht', hb⟩
    · rw [xT_put] at hu; simp at hu
theorem new7 {wq : World} {pa qa : Option Addr} {pc qc : Nat} {X : World} (h : TrAt (fun b => X.heap.size ≤ b ∧ b < wq.heap.size) wq (xT 7) (.slice pa 0 pc) (.slice qa 3 qc)) :
    TreeVar wq.heap.size (xT 7) (.slice pa 0 pc) (.slice qa 3 qc) (wq.alloc (.cells #[.int .u64 0, .bool false, .slice pa 0 pc, .slice qa 3 qc] 26)) := TreeVar.new (t := xT 7) (h.weaken (fun _ h => h.2))
theorem put7 {wq : World} {pa qa : Option Addr} {pc qc b : Nat} {X : World} {c0 c1 c2 c3 : Value} (h : TrAt (fun b => X.heap.size ≤ b ∧ b < wq.heap.size) wq (xT 7) (.slice pa 0 pc) (.slice qa 3 qc)) (hbq : Below X.heap.size X wq) (hx : X.heap[b]? = some (.cells #[c0, c1, c2, c3] 26 (0, 0))) :
    TreeVar b (xT 7) (.slice pa 0 pc) (.slice qa 3 qc) ((((wq.setCell ⟨b, 0, none⟩ (.int .u64 0)).setCell ⟨b, 1, none⟩ (.bool false)).setCell ⟨b, 2, none⟩ (.slice pa 0 pc)).setCell ⟨b, 3, none⟩ (.slice qa 3 qc)) := TreeVar.put (t := xT 7) h hbq hx
def TextsPost (w : World) (e : Ending) (w' : World) : Prop := e = .returned (.bool true) ∧ Below w.heap.size w w'

set_option maxRecDepth 8000 in
set_option maxHeartbeats 4000000 in
theorem texts_any (w : World) : Calls Try.prog 8 #[] w (TextsPost w) := by
  go_enter Try.func8, Try.ntmps8
  go_wp2_with fail
  refine (num_any 5 _).mono ?_
  rintro e w1 ⟨rfl, hb1⟩
  go_wp2_with fail
  refine (blank_any _).mono ?_
  rintro e w2 ⟨rfl, hb2⟩
  go_wp2_with fail
  refine (data_any [97, 98] _ _ (rep_new (w := w2) (cs := [byteC 97, byteC 98]) (vs := [.int .u8 97, .int .u8 98]) _ (n := 2) (k := 1) ⟨by rw [byteC, C.rep]; rfl, by rw [byteC, C.rep]; rfl, trivial⟩ rfl (by unfold maxLen; omega)) (by simp)).mono ?_
  rintro e w4 ⟨dv, kv, rfl, hD, hb4⟩
  obtain ⟨da, dc, ka, kc, rfl, rfl, _, _, _, _⟩ := hD.form
  have hb04 : Below w.heap.size w w4 := below_tr (below_al (below_tr hb1 hb2) _) hb4
  have HD := Lib.hid hD
  have HB04 := Lib.hid hb04
  clear hb1 hb2 hb4 hD hb04
  go_wp2_with fail
  refine (of_any [xD] _ _ (rep_new (w := w4) (cs := Tr.cs [xD]) (vs := [.int .u64 0, .bool false, .slice da 2 dc, .slice ka 0 kc]) _ (n := 1) (k := 4) (reps_tree HD.out reps_none) (by rw [Tr.cs_length]; rfl) (by unfold maxLen; omega)) (by simp)).mono ?_
  rintro e w6 ⟨dv, kv, rfl, hO, hb6⟩
  obtain ⟨oa, oc, pa, pc, rfl, rfl, _, _, _, _⟩ := hO.form
  have HO := Lib.hid hO
  have HB06 := Lib.hid (below_tr (below_al HB04.out _) hb6)
  clear hO hb6
  go_wp2_with fail
  refine (of_any [.node 5 false [] [], .node 0 true [] [], xO] _ _ (rep_new (w := w6) (cs := Tr.cs [.node 5 false [] [], .node 0 true [] [], xO]) (vs := [.int .u64 5, .bool false, .slice none 0 0, .slice none 0 0, .int .u64 0, .bool true, .slice none 0 0, .slice none 0 0, .int .u64 0, .bool false, .slice oa 0 oc, .slice pa 1 pc]) _ (n := 3) (k := 4) (reps_tree (leaf 5 false) (reps_tree (leaf 0 true) (reps_tree HO.out reps_none))) (by rw [Tr.cs_length]; rfl) (by unfold maxLen; omega)) (by simp)).mono ?_
  rintro e w8 ⟨dv, kv, rfl, hT, hb8⟩
  obtain ⟨ta, tc, ua, uc, rfl, rfl, _, _, _, _⟩ := hT.form
  have HB08 := Lib.hid (below_tr (below_al HB06.out _) hb8)
  have HV1 := Lib.hid (TreeVar.new (t := xT 5) hT)
  have HB09 := Lib.hid (below_al HB08.out (.cells #[.int .u64 0, .bool false, .slice ta 0 tc, .slice ua 3 uc] 26 (0, 0)))
  clear hT hb8
  go_wp2_with fail
  refine (parse_any _ _ (by decide)).mono ?_
  rintro e wp ⟨dv, kv, kxs, he, hown, hbp⟩
  rw [xT_parse] at he hown
  have hT2 := hown.at_
  obtain ⟨sa, sc, ra, rc, h1, h2, _, _, _, _⟩ := hT2.form
  subst h1 h2
  obtain rfl : e = .returned (.tuple #[.agg #[.int .u64 0, .bool false, .slice sa 0 sc, .slice ra 3 rc], .int .i64 0]) := he
  have HV1p := Lib.hid (HV1.out.up hbp)
  have HV2 := Lib.hid (TreeVar.new (t := xT 5) hT2)
  have HB0p := Lib.hid (below_tr HB09.out hbp)
  have hV1q := HV1p.out.up (below_al (Below.refl _ _) (.cells #[.int .u64 0, .bool false, .slice sa 0 sc, .slice ra 3 rc] 26 (0, 0)))
  have hq : ∀ {v0 v1 v2 v3 : Value}, (wp.alloc (.cells #[.int .u64 0, .bool false, .slice sa 0 sc, .slice ra 3 rc] 26 (0, 0))).cell? ⟨w8.heap.size, 0, none⟩ = some (.int .u64 0) ∧ (wp.alloc (.cells #[.int .u64 0, .bool false, .slice sa 0 sc, .slice ra 3 rc] 26 (0, 0))).cell? ⟨w8.heap.size, 1, none⟩ = some (.bool false) ∧ (wp.alloc (.cells #[.int .u64 0, .bool false, .slice sa 0 sc, .slice ra 3 rc] 26 (0, 0))).cell? ⟨w8.heap.size, 2, none⟩ = some (.slice ta 0 tc) ∧ (wp.alloc (.cells #[.int .u64 0, .bool false, .slice sa 0 sc, .slice ra 3 rc] 26 (0, 0))).cell? ⟨w8.heap.size, 3, none⟩ = some (.slice ua 3 uc) := hV1q.cells
  obtain ⟨q0, q1, q2, q3⟩ := @hq undef undef undef undef
  have HV1q := Lib.hid hV1q
  have HB0q := Lib.hid (below_al HB0p.out (.cells #[.int .u64 0, .bool false, .slice sa 0 sc, .slice ra 3 rc] 26 (0, 0)))
  clear hown hbp hT2 hV1q hq
  go_wp2_with fail
  clear q0 q1 q2 q3
  have hE : Elems .i64 ((wp.alloc (.cells #[.int .u64 0, .bool false, .slice sa 0 sc, .slice ra 3 rc] 26 (0, 0))).alloc (.cells #[.int .i64 2, .int .i64 0] 3)) (some ⟨wp.heap.size + 1, 0, none⟩) [2, 0] := by
    have := elems_new (w := wp.alloc (.cells #[.int .u64 0, .bool false, .slice sa 0 sc, .slice ra 3 rc] 26 (0, 0))) (k := .i64) (way := [2, 0]) (vs := [.int .i64 2, .int .i64 0]) 3 rfl
    rw [size_al] at this; exact this
  refine (at_any (xT 5) (.slice ta 0 tc) (.slice ua 3 uc) (some ⟨wp.heap.size + 1, 0, none⟩) 2 2 [2, 0] _ (HV1q.out.up (below_al (Below.refl _ _) _)).2.2 rfl (by unfold maxLen; omega) hE (by decide)).mono ?_
  rintro e wa ⟨hba, hx⟩
  obtain ⟨xa, xc, ya, yc, rfl, hX⟩ : ∃ xa xc ya yc, e = .returned (.tuple #[.agg #[.int .u64 0, .bool false, .slice xa 2 xc, .slice ya 0 yc], .bool true]) ∧ TrAt (· < wa.heap.size) wa xD (.slice xa 2 xc) (.slice ya 0 yc) := by
    rcases hx with ⟨u, dv, kv, hu, ht, rfl⟩ | ⟨hu, _⟩
    · rw [xT_at] at hu
      simp only [Option.some.injEq] at hu
      subst hu
      have ht' := ht.up hba
      obtain ⟨xa, xc, ya, yc, rfl, rfl, _, _, _, _⟩ := ht'.form
      exact ⟨_, _, _, _, rfl, ht'⟩
    · rw [xT_at] at hu; simp at hu
  have hba' := below_tr (below_al (Below.refl _ _) _) hba
  have HV1a := Lib.hid (HV1q.out.up hba')
  have HV2a := Lib.hid (HV2.out.up hba')
  have HV4 := Lib.hid (TreeVar.new (t := xD) hX)
  have HB0a := Lib.hid (below_tr HB0q.out hba')
  clear hba hba' hX hx hE
  obtain ⟨W, hW⟩ : ∃ W, wa.alloc (.cells #[.int .u64 0, .bool false, .slice xa 2 xc, .slice ya 0 yc] 26 (0, 0)) = W := ⟨_, rfl⟩
  have hV1w := HV1a.out.up (below_al (Below.refl _ _) (.cells #[.int .u64 0, .bool false, .slice xa 2 xc, .slice ya 0 yc] 26 (0, 0)))
  have hV2w := HV2a.out.up (below_al (Below.refl _ _) (.cells #[.int .u64 0, .bool false, .slice xa 2 xc, .slice ya 0 yc] 26 (0, 0)))
  have hV4w : TreeVar wa.heap.size xD (.slice xa 2 xc) (.slice ya 0 yc) (wa.alloc (.cells #[.int .u64 0, .bool false, .slice xa 2 xc, .slice ya 0 yc] 26 (0, 0))) := HV4.out
  have hBw := below_al HB0a.out (.cells #[.int .u64 0, .bool false, .slice xa 2 xc, .slice ya 0 yc] 26 (0, 0))
  rw [hW] at hV1w hV2w hV4w hBw
  go_upto_region 4 with fail
  have hS : ∀ w', Below W.heap.size W w' → w'.cell? ⟨w8.heap.size, 0, none⟩ = some (.int .u64 0) ∧ w'.cell? ⟨w8.heap.size, 1, none⟩ = some (.bool false) ∧ w'.cell? ⟨w8.heap.size, 2, none⟩ = some (.slice ta 0 tc) ∧ w'.cell? ⟨w8.heap.size, 3, none⟩ = some (.slice ua 3 uc) := fun w' h => (hV1w.up h).cells
  have hP : ∀ X g, Below W.heap.size W X → X.cell? ⟨g, 0, none⟩ = some (.int .i64 0) → _ := fun X g h hg => put_texts (g := g) X (hV1w.up h).2.2 hg
  have HS := Lib.hid hS
  have HP := Lib.hid hP
  have HV1w := Lib.hid hV1w
  have HV2w := Lib.hid hV2w
  have HV4w := Lib.hid hV4w
  have HBW := Lib.hid hBw
  clear hS hP hV1w hV2w hV4w hBw hW
  go_cut [6, 7] (fun s6 s7 wx => ∃ b6 pa pc qa qc, s6 = .pointer (some ⟨b6, 0, none⟩) ∧ s7 = .bool true ∧ TreeVar b6 (xT 7) (.slice pa 0 pc) (.slice qa 3 qc) wx ∧ Below W.heap.size W wx)
  case first =>
    go_region_held3 (fun w' => w'.cell? ⟨w8.heap.size, 0, none⟩ = some (.int .u64 0) ∧ w'.cell? ⟨w8.heap.size, 1, none⟩ = some (.bool false) ∧ w'.cell? ⟨w8.heap.size, 2, none⟩ = some (.slice ta 0 tc) ∧ w'.cell? ⟨w8.heap.size, 3, none⟩ = some (.slice ua 3 uc))
      ((refine HS.out _ ?_; (repeat (first | exact Below.refl _ _ | exact hbW | refine Below.drew ?_ | refine below_al ?_ _ | refine below_set ?_ (by omega) _))))
      (first
        | (go_at_call 22; refine (num_any 7 _).mono ?_; rintro e wn ⟨rfl, hbn⟩; have hbW : Below W.heap.size W wn := (below_tr (by (repeat (first | exact Below.refl _ _ | refine Below.drew ?_ | refine below_al ?_ _))) hbn); obtain ⟨hc2, hf2⟩ := bcell hbn; have hz2 := hbn.size; (try simp at hz2); have hzW := hbW.size; (try (have hz4 : W.heap.size < wn.heap.size := (by omega))); (try (have hz5 : W.heap.size + 1 < wn.heap.size := (by omega))); have hz6 : W.heap.size < wn.heap.size + 1 := (by omega); have hz7 : W.heap.size < wn.heap.size + 1 + 1 := (by omega))
        | (go_at_call 16; refine (HP.out _ _ ?_ ?_).mono ?_; (focus (repeat (first | exact Below.refl _ _ | exact hbW | refine Below.drew ?_ | refine below_al ?_ _))); (focus (first | (simp [go_sem, *]; done) | (refine cell_alloc' (by omega) ?_; (simp [go_sem, *]; done)))); rintro e wq ⟨pa, pc, qa, qc, rfl, htp, hbq⟩; have hbW : Below W.heap.size W wq := (below_tr (by (repeat (first | exact Below.refl _ _ | exact hbW | refine Below.drew ?_ | refine below_al ?_ _))) hbq); obtain ⟨hc3, hf3⟩ := bcell hbq; have hz3 := hbq.size; have hzV := hbW.size))
    all_goals go_wp2_with fail
    all_goals go_meet
    all_goals
      refine ⟨_, pa, pc, qa, qc, rfl, rfl, ?_, ?_⟩
      · first
        | (with_reducible exact new7 htp)
        | (with_reducible (refine put7 htp hbq (c0 := .int .u64 0) (c1 := .bool false) (c2 := .slice none 0 0) (c3 := .slice none 0 0) ?_)
           first
           | (with_reducible exact heap_new _ _)
           | (exact heap_two _ _ _)
           | (exact heap_one _ _ _)
           | (exact (heap_old _ (by omega)).trans ((hbn.block _ (by show W.heap.size < (W.alloc _).heap.size; rw [size_al]; omega)).trans (heap_new W _)))
           | (exact (hbn.block _ (by show _ < ((W.alloc _).alloc _).heap.size; rw [size_al, size_al]; omega)).trans (heap_two W _ _))
           | (exact (hbn.block _ (by show _ < ((W.alloc _).alloc _).heap.size; rw [size_al, size_al]; omega)).trans (heap_one W _ _)))
      · repeat (first | exact hbW | refine below_al ?_ _ | refine below_set ?_ (by omega) _)
  case rest =>
    obtain ⟨b6, pa, pc, qa, qc, rfl, rfl, hV6, hBx⟩ := hcut
    have hV1 := HV1w.out.up hBx
    have hV2 := HV2w.out.up hBx
    have hV4 := HV4w.out.up hBx
    have hBB := below_tr HBW.out hBx
    have hconv : ∀ X, Below wc.heap.size wc X → (convert 23 9 (.slice xa 2 xc)).run Try.prog X = .ok (.string ⟨#[97, 98]⟩) X := fun X h =>
      string_of_data (P := Try.prog) (hV4.up h).2.2.data Try.underlying23 Try.underlying5 Try.underlying9
    have hS : ∀ X, Below wc.heap.size wc X → X.cell? ⟨w8.heap.size, 0, none⟩ = some (.int .u64 0) ∧ X.cell? ⟨w8.heap.size, 1, none⟩ = some (.bool false) ∧ X.cell? ⟨w8.heap.size, 2, none⟩ = some (.slice ta 0 tc) ∧ X.cell? ⟨w8.heap.size, 3, none⟩ = some (.slice ua 3 uc) ∧ X.cell? ⟨wp.heap.size, 0, none⟩ = some (.int .u64 0) ∧ X.cell? ⟨wp.heap.size, 1, none⟩ = some (.bool false) ∧ X.cell? ⟨wp.heap.size, 2, none⟩ = some (.slice sa 0 sc) ∧ X.cell? ⟨wp.heap.size, 3, none⟩ = some (.slice ra 3 rc) ∧ X.cell? ⟨wa.heap.size, 2, none⟩ = some (.slice xa 2 xc) ∧ X.cell? ⟨b6, 0, none⟩ = some (.int .u64 0) ∧ X.cell? ⟨b6, 1, none⟩ = some (.bool false) ∧ X.cell? ⟨b6, 2, none⟩ = some (.slice pa 0 pc) ∧ X.cell? ⟨b6, 3, none⟩ = some (.slice qa 3 qc) ∧ (convert 23 9 (.slice xa 2 xc)).run Try.prog X = .ok (.string ⟨#[97, 98]⟩) X := fun X h => by
      obtain ⟨a0, a1, a2, a3⟩ := (hV1.up h).cells
      obtain ⟨b0, b1, b2, b3⟩ := (hV2.up h).cells
      obtain ⟨_, _, d2, _⟩ := (hV4.up h).cells
      obtain ⟨e0, e1, e2, e3⟩ := (hV6.up h).cells
      exact ⟨a0, a1, a2, a3, b0, b1, b2, b3, d2, e0, e1, e2, e3, hconv X h⟩
    have hT5 : ∀ X, Below wc.heap.size wc X → Calls Try.prog 11 #[.agg #[.int .u64 0, .bool false, .slice ta 0 tc, .slice ua 3 uc]] X fun e w' => e = .returned (.string ⟨#[48, 40, 53, 44, 95, 48, 44, 48, 40, 48, 58, 54, 49, 54, 50, 41, 41]⟩) ∧ Below wc.heap.size wc w' := fun X h => by
      refine (text_any (xT 5) _ _ X (xT_ok 5 (by omega)) (hV1.up h).2.2 (by rw [xT5_text]; simp)).mono ?_
      rintro e w' ⟨rfl, hb⟩
      rw [xT5_text]
      exact ⟨rfl, below_tr h hb⟩
    have hT7 : ∀ X, Below wc.heap.size wc X → Calls Try.prog 11 #[.agg #[.int .u64 0, .bool false, .slice pa 0 pc, .slice qa 3 qc]] X fun e w' => e = .returned (.string ⟨#[48, 40, 55, 44, 95, 48, 44, 48, 40, 48, 58, 54, 49, 54, 50, 41, 41]⟩) ∧ Below wc.heap.size wc w' := fun X h => by
      refine (text_any (xT 7) _ _ X (xT_ok 7 (by omega)) (hV6.up h).2.2 (by rw [xT7_text]; simp)).mono ?_
      rintro e w' ⟨rfl, hb⟩
      rw [xT7_text]
      exact ⟨rfl, below_tr h hb⟩
    have hS1 : ∀ X, Below wc.heap.size wc X → Calls Try.prog 12 #[.agg #[.int .u64 0, .bool false, .slice sa 0 sc, .slice ra 3 rc], .agg #[.int .u64 0, .bool false, .slice ta 0 tc, .slice ua 3 uc]] X fun e w' => e = .returned (.bool true) ∧ Below wc.heap.size wc w' := fun X h => by
      refine (same_said 5 (xT 5) (xT 5) _ _ _ _ X (by rw [xT_size]; omega) (xT_ok 5 (by omega)) (xT_ok 5 (by omega)) (hV2.up h).2.2 (hV1.up h).2.2).mono ?_
      rintro e w' ⟨rfl, hb⟩
      exact ⟨ret_b (Tr.same_true.2 rfl), below_tr h hb⟩
    have hS2 : ∀ X, Below wc.heap.size wc X → Calls Try.prog 12 #[.agg #[.int .u64 0, .bool false, .slice ta 0 tc, .slice ua 3 uc], .agg #[.int .u64 0, .bool false, .slice pa 0 pc, .slice qa 3 qc]] X fun e w' => e = .returned (.bool false) ∧ Below wc.heap.size wc w' := fun X h => by
      refine (same_said 5 (xT 5) (xT 7) _ _ _ _ X (by rw [xT_size]; omega) (xT_ok 5 (by omega)) (xT_ok 7 (by omega)) (hV1.up h).2.2 (hV6.up h).2.2).mono ?_
      rintro e w' ⟨rfl, hb⟩
      exact ⟨ret_b (Tr.same_false.2 (by simp [xT])), below_tr h hb⟩
    have hPa : ∀ X, Below wc.heap.size wc X → Calls Try.prog 17 #[.agg #[.int .u64 0, .bool false, .slice ta 0 tc, .slice ua 3 uc]] X fun e w' => e = .returned (.int .i64 5) ∧ Below wc.heap.size wc w' := fun X h => by
      refine (parts_any 5 (xT 5) _ _ X (by rw [xT_size]; omega) (by rw [xT_size]; omega) (hV1.up h).2.2).mono ?_
      rintro e w' ⟨rfl, hb⟩
      exact ⟨ret_i (by rw [xT_size]; rfl), below_tr h hb⟩
    have hDe : ∀ X, Below wc.heap.size wc X → Calls Try.prog 13 #[.agg #[.int .u64 0, .bool false, .slice ta 0 tc, .slice ua 3 uc]] X fun e w' => e = .returned (.int .i64 3) ∧ Below wc.heap.size wc w' := fun X h => by
      refine (depth_any 5 (xT 5) _ _ X (by rw [xT_size]; omega) (by rw [xT_size]; omega) (hV1.up h).2.2).mono ?_
      rintro e w' ⟨rfl, hb⟩
      exact ⟨ret_i (by rw [xT_deep]; rfl), below_tr h hb⟩
    have hCl : ∀ X, Below wc.heap.size wc X → Calls Try.prog 14 #[.agg #[.int .u64 0, .bool false, .slice ta 0 tc, .slice ua 3 uc]] X fun e w' => ∃ la lc ma mc, e = .returned (.agg #[.int .u64 0, .bool false, .slice la 0 lc, .slice ma 3 mc]) ∧ Below wc.heap.size wc w' ∧
        Calls Try.prog 12 #[.agg #[.int .u64 0, .bool false, .slice ta 0 tc, .slice ua 3 uc], .agg #[.int .u64 0, .bool false, .slice la 0 lc, .slice ma 3 mc]] w' fun e w'' => e = .returned (.bool true) ∧ Below wc.heap.size wc w'' := fun X h => by
      refine (clone_said 5 (xT 5) _ _ X (by rw [xT_size]; omega) (xT_small 5) (hV1.up h).2.2).mono ?_
      rintro e w' ⟨dv, kv, kxs, rfl, hown, hb⟩
      have ht := hown.at_
      obtain ⟨la, lc, ma, mc, rfl, rfl, _, _, _, _⟩ := ht.form
      have hb' := below_tr h hb
      refine ⟨la, lc, ma, mc, rfl, hb', ?_⟩
      refine (same_said 5 (xT 5) (xT 5) _ _ _ _ w' (by rw [xT_size]; omega) (xT_ok 5 (by omega)) (xT_ok 5 (by omega)) (hV1.up hb').2.2 ht).mono ?_
      rintro e w'' ⟨rfl, hb2⟩
      exact ⟨ret_b (Tr.same_true.2 rfl), below_tr hb' hb2⟩
    have HS5 := Lib.hid hS
    have HT5 := Lib.hid hT5
    have HT7 := Lib.hid hT7
    have HS1 := Lib.hid hS1
    have HS2 := Lib.hid hS2
    have HPa := Lib.hid hPa
    have HDe := Lib.hid hDe
    have HCl := Lib.hid hCl
    have HBB := Lib.hid hBB
    clear hS hT5 hT7 hS1 hS2 hPa hDe hCl hBB hV1 hV2 hV4 hV6 hBx hconv
    go_upto_region 5 with fail
    go_region_held3 (fun X => X.cell? ⟨w8.heap.size, 0, none⟩ = some (.int .u64 0) ∧ X.cell? ⟨w8.heap.size, 1, none⟩ = some (.bool false) ∧ X.cell? ⟨w8.heap.size, 2, none⟩ = some (.slice ta 0 tc) ∧ X.cell? ⟨w8.heap.size, 3, none⟩ = some (.slice ua 3 uc) ∧ X.cell? ⟨wp.heap.size, 0, none⟩ = some (.int .u64 0) ∧ X.cell? ⟨wp.heap.size, 1, none⟩ = some (.bool false) ∧ X.cell? ⟨wp.heap.size, 2, none⟩ = some (.slice sa 0 sc) ∧ X.cell? ⟨wp.heap.size, 3, none⟩ = some (.slice ra 3 rc) ∧ X.cell? ⟨wa.heap.size, 2, none⟩ = some (.slice xa 2 xc) ∧ X.cell? ⟨b6, 0, none⟩ = some (.int .u64 0) ∧ X.cell? ⟨b6, 1, none⟩ = some (.bool false) ∧ X.cell? ⟨b6, 2, none⟩ = some (.slice pa 0 pc) ∧ X.cell? ⟨b6, 3, none⟩ = some (.slice qa 3 qc) ∧ (convert 23 9 (.slice xa 2 xc)).run Try.prog X = .ok (.string ⟨#[97, 98]⟩) X)
      ((refine HS5.out _ ?_; (repeat (first | exact Below.refl _ _ | exact hbW | refine Below.drew ?_))))
      (first
        | (go_at_call 11; with_reducible (refine (HT5.out _ ?_).mono ?_); (focus (repeat (first | exact Below.refl _ _ | exact hbW | refine Below.drew ?_))); rintro e wn ⟨rfl, hbW⟩)
        | (go_at_call 11; with_reducible (refine (HT7.out _ ?_).mono ?_); (focus (repeat (first | exact Below.refl _ _ | exact hbW | refine Below.drew ?_))); rintro e wn ⟨rfl, hbW⟩)
        | (go_at_call 17; with_reducible (refine (HPa.out _ ?_).mono ?_); (focus (repeat (first | exact Below.refl _ _ | exact hbW | refine Below.drew ?_))); rintro e wn ⟨rfl, hbW⟩)
        | (go_at_call 13; with_reducible (refine (HDe.out _ ?_).mono ?_); (focus (repeat (first | exact Below.refl _ _ | exact hbW | refine Below.drew ?_))); rintro e wn ⟨rfl, hbW⟩)
        | (go_at_call 14; with_reducible (refine (HCl.out _ ?_).mono ?_); (focus (repeat (first | exact Below.refl _ _ | exact hbW | refine Below.drew ?_))); rintro e wn ⟨la, lc, ma, mc, rfl, hbW, hsc⟩)
        | (go_at_call 12; with_reducible (refine (HS1.out _ ?_).mono ?_); (focus (repeat (first | exact Below.refl _ _ | exact hbW | refine Below.drew ?_))); rintro e wn ⟨rfl, hbW⟩)
        | (go_at_call 12; with_reducible (refine (HS2.out _ ?_).mono ?_); (focus (repeat (first | exact Below.refl _ _ | exact hbW | refine Below.drew ?_))); rintro e wn ⟨rfl, hbW⟩)
        | (go_at_call 12; with_reducible (refine hsc.mono ?_); rintro e wn ⟨rfl, hbW⟩))
    go_wp2_with fail
    go_ret
    exact ⟨rfl, below_tr HBB.out hbW⟩
end Go.Proofs.Ytdogiobppeemiaa
