/- The reader's tree: the walk. -/
import Derived.Test.YtdogiobppeemiaaRs
import Derived.Deep.DeepCutAuto
import Derived.Deep.RegionLaw
import Derived.Deep.CutBlock
namespace Go.Proofs.Ytdogiobppeemiaa
set_option linter.unusedSimpArgs false
set_option linter.unusedVariables false
set_option linter.unnecessarySimpa false
open Go.RowKit
attribute [local go_sem ↓] Go.wp_at_zero Go.wp_at_succ

def ReadPost (L : Nat) (s : ByteArray) (r : Tr × Nat × Int) (w : World) (e : Ending) (w' : World) : Prop :=
  ∃ dv kv kxs, e = .returned (.agg #[.int .u64 (r.1.num : Int), .bool r.1.blank, dv, kv]) ∧ Owned w.heap.size r.1 dv kv kxs w' ∧ Rd L s r.2.1 r.2.2 w' ∧ Kept L w w'
def ReadSaid (f : Nat) : Prop := ∀ (L : Nat) (s : ByteArray) (a : Nat) (bad : Int) (deep : Nat) (w : World), deep + f = 401 → Rd L s a bad w → a ≤ s.size → s.size ≤ 1048576 →
  Calls Try.prog 25 #[.pointer (some ⟨L, 0, none⟩), .int .i64 (deep : Int)] w (ReadPost L s (rtree s f a bad) w)

theorem owned_zero (B : Nat) (w : World) : Owned B zeroTr (.slice none 0 0) (.slice none 0 0) [] w :=
  ⟨World.ownsRow_nil _ _ _ _, World.ownsRow_nil _ _ _ _, fun _ h => by simp [Value.ownBlock] at h, by show C.reps _ _ (Tr.cs []) []; rw [Tr.cs]; trivial⟩

theorem read_zero : ReadSaid 0 := by
  intro L s a bad deep w hd h ha hs
  obtain rfl : deep = 401 := by omega
  have hL := h.lt
  have H := Lib.hid h
  clear h
  go_enter Try.func25, Try.ntmps25
  go_wp2_with fail
  refine (wrong_any L s a bad 6 _ (H.out.up (below_al (Below.refl _ _) _) hL)).mono ?_
  rintro e w2 ⟨rfl, hr, hk⟩
  have hk2 := (Kept.of_below (L := L) (below_al (Below.refl _ w) (.cells #[.int .u64 0, .bool false, .slice none 0 0, .slice none 0 0] 26))).trans hk
  have hres : w2.heap[w.heap.size]? = some (.cells #[.int .u64 0, .bool false, .slice none 0 0, .slice none 0 0] 26 (0, 0)) := (hk.block _ (by rw [size_al]; omega) (by omega)).trans (heap_new _ _)
  have hR := fun j => cell_of_heap (j := j) hres
  have hRf := fun j => free_of_heap (j := j) hres
  have R0 := hR 0
  have R1 := hR 1
  have R2 := hR 2
  have R3 := hR 3
  simp only [List.getElem?_toArray, List.getElem?_cons_succ, List.getElem?_cons_zero] at R0 R1 R2 R3
  have HR := Lib.hid hr
  have HK := Lib.hid hk2
  clear hr hk hk2 hR hres
  go_wp2_with fail
  refine bodyPost_ret (v := .agg #[.int .u64 0, .bool false, .slice none 0 0, .slice none 0 0]) (by simp [results, Try.results25, go_sem, R0, R1, R2, R3]) rfl ?_
  exact ⟨_, _, _, rfl, owned_zero _ _, HR.out.up (below4 (L + 1) w2 w.heap.size (by omega) _ _ _ _) (by omega), HK.out.more (below4 w.heap.size w2 w.heap.size (Nat.le_refl _) _ _ _ _)⟩

/-- The state at the head of the loop over the digits. -/
def DataInv (L : Nat) (s : ByteArray) (w : World) (n : Nat) (bl : Bool) (D : ByteArray) (a3 : Nat) (bad1 : Int) (O : Nat) (i : Value) (wr : World) : Prop :=
  ∃ (j J : Nat) (d : List UInt8) (dv : Value), i = .int .i64 (J : Int) ∧ J = 2 * j ∧ J ≤ D.size ∧ d = pairsV (D.data.toList.take (2 * j)) ∧ RdSt L w n bl d O dv (.slice none 0 0) [] [] wr ∧ Rd L s a3 bad1 wr
def mB (v : Value) : Nat := match v with | .bool true => 1 | _ => 0
/-- The state at the head of the loop over the parts. -/
def PartInv (rt : Nat → Int → Tr × Nat × Int) (L : Nat) (s : ByteArray) (w : World) (n : Nat) (bl : Bool) (d : List UInt8) (O : Nat) (dv : Value) (goal : List Tr × Nat × Int) (more : Value) (wr : World) : Prop :=
  ∃ (m : Bool) (N a : Nat) (b : Int) (ks : List Tr) (kxs : List Value) (kv : Value), more = .bool m ∧ RdSt L w n bl d O dv kv ks kxs wr ∧ Rd L s a b wr ∧ a ≤ s.size ∧ ks.length ≤ a + 1 ∧ (m = true → b = 0 → ks.length ≤ a) ∧ 2 * (s.size - a) + mB more < N ∧ (ks ++ (rkids rt s N m a b).1, (rkids rt s N m a b).2) = goal
set_option maxRecDepth 8000 in
set_option maxHeartbeats 40000000 in
theorem read_step (f : Nat) (ih : ReadSaid f) : ReadSaid (f + 1) := by
  intro L s a bad deep w hd h ha hs
  have hL := h.lt
  have H := Lib.hid h
  have IH := Lib.hid ih
  have hde : (deep : Int) ≤ 400 := by omega
  have hst := step_bd s a bad 95 ha
  have hdd : (numOf s (step s a bad 95)) = numOf s (step s a bad 95) := rfl
  clear h ih
  go_enter Try.func25, Try.ntmps25
  go_wp2_with fail
  refine (eat_any L s a bad 95 _ (H.out.up (below_al (Below.refl _ _) _) hL) ha (by omega)).mono ?_
  rintro e w2 ⟨rfl, hr2, hk2⟩
  change Rd L s (step s a bad 95) bad w2 at hr2
  have HR2 := Lib.hid hr2
  have HK2 := Lib.hid hk2
  clear hr2 hk2
  go_wp2_with fail
  have sz2 := HK2.out.size
  rw [size_al] at sz2
  have hl2 := HR2.out.lt
  refine (while_any L s dig10 _ bad _ (HR2.out.up (below_al (Below.refl _ _) _) hl2) hst.2 (by omega)).mono ?_
  rintro e w3 ⟨rfl, hr3, hk3⟩
  have HR3 := Lib.hid hr3
  have HK3 := Lib.hid hk3
  clear hr3 hk3
  go_wp2_with fail
  refine (wparse (s.extract (step s a bad 95) (step s a bad 95 + run_ s dig10 (step s a bad 95))) _ ?_).mono ?_
  · have hr := run_le s dig10 _ hst.2
    unfold maxLen
    simp; omega
  obtain ⟨n, er, hq⟩ : ∃ (n : Nat) (er : Int), numOf s (step s a bad 95) = ((n : Int), er) :=
    ⟨(numOf s (step s a bad 95)).1.toNat, (numOf s (step s a bad 95)).2, Prod.ext (Int.toNat_of_nonneg (parseS_nn _)).symm rfl⟩
  rintro e w4 ⟨he4, rfl⟩
  rw [show parseS (s.extract (step s a bad 95) (step s a bad 95 + run_ s dig10 (step s a bad 95))).data.toList = ((n : Int), er) from hq] at he4
  obtain rfl := he4
  have hout2 : w3.heap[w2.heap.size]? = some (.cells #[.int .u64 0, .bool (eats s a bad 95), .slice none 0 0, .slice none 0 0] 26 (0, 0)) := (HK3.out.block _ (by rw [size_al]; omega) (by omega)).trans (heap_new _ _)
  have hres2 : w3.heap[w.heap.size]? = some (.cells #[.int .u64 0, .bool false, .slice none 0 0, .slice none 0 0] 26 (0, 0)) :=
    (HK3.out.block _ (by rw [size_al]; omega) (by omega)).trans ((heap_old _ (by omega)).trans ((HK2.out.block _ (by rw [size_al]; omega) (by omega)).trans (heap_new _ _)))
  have hk4 : Kept L w w3 := (((Kept.of_below (below_al (Below.refl _ _) _)).trans HK2.out).up (below_al (Below.refl _ _) _)).trans HK3.out
  have s3 := HK3.out.size
  rw [size_al] at s3
  obtain ⟨a2, ha2⟩ : ∃ a2, step s a bad 95 + run_ s dig10 (step s a bad 95) = a2 := ⟨_, rfl⟩
  obtain ⟨bad1, hb1⟩ : ∃ bad1, (if er = 0 then bad else worse bad er) = bad1 := ⟨_, rfl⟩
  have ha2s : a2 ≤ s.size := ha2 ▸ run_le s dig10 _ hst.2
  have HQ := Lib.hid (And.intro hq (And.intro ha2 hb1))
  have hr3' := HR3.out
  rw [ha2] at hr3'
  have HR3' := Lib.hid hr3'
  have HO := Lib.hid (And.intro hout2 hres2)
  have HK4 := Lib.hid hk4
  clear hq ha2 hb1 hr3' hout2 hres2 hk4
  go_upto_if 26 with fail
  go_cut [] (fun wx => Rd L s a2 bad1 wx ∧ Kept L w3 wx)
  case first =>
    by_cases he : er = 0
    · have hne : (er != 0) = false := by rw [bne_eq_false_iff_eq]; exact he
      have HE := Lib.hid he
      clear he
      go_wp2_with fail
      go_meet
      refine ⟨?_, Kept.refl _ _⟩
      have hb := HQ.out.2.2
      rw [if_pos HE.out] at hb
      rw [← hb]; exact HR3'.out
    · have hne : (er != 0) = true := by rw [bne_iff_ne]; exact he
      have HE := Lib.hid he
      clear he
      go_wp2_with fail
      refine (wrong_any L s a2 bad er _ HR3'.out).mono ?_
      rintro e w4 ⟨rfl, hr, hk⟩
      have HR := Lib.hid hr
      have HK := Lib.hid hk
      clear hr hk
      go_wp2_with fail
      go_meet
      refine ⟨?_, HK.out⟩
      have hb := HQ.out.2.2
      rw [if_neg HE.out] at hb
      rw [← hb]; exact HR.out
  case rest =>
    obtain ⟨hr5, hk5⟩ := hcut
    have sx := hk5.size
    have hox := (hk5.block _ (by omega) (by omega)).trans HO.out.1
    have hrx := (hk5.block _ (by omega) (by omega)).trans HO.out.2
    have hst5 : RdSt L w n (eats s a bad 95) [] w2.heap.size (.slice none 0 0) (.slice none 0 0) [] [] (wc.setCell ⟨w2.heap.size, 0, none⟩ (.int .u64 (n : Int))) := by
      refine RdSt.start ((HK4.out.trans hk5).more ((Below.refl _ _).setCell (by show w.heap.size ≤ w2.heap.size; omega) _)) hL (by omega) (by simp [World.setCell]; omega) (by simp [World.setCell, Array.getElem?_modify, hox]) ?_
      rw [heap_setCell_ne (by omega)]; exact hrx
    have hr6 : Rd L s a2 bad1 (wc.setCell ⟨w2.heap.size, 0, none⟩ (.int .u64 (n : Int))) := (heap_setCell_ne (by omega)).trans hr5
    have hXf := fun j => free_of_heap (j := j) hox
    have hX0 := cell_of_heap (j := 0) hox
    simp only [List.getElem?_toArray, List.getElem?_cons_zero] at hX0
    have HR6 := Lib.hid hr6
    have HST := Lib.hid hst5
    clear hr5 hk5 hox hrx hst5 hr6 sx
    go_wp2_with fail
    refine (eat_any L s a2 bad1 58 _ HR6.out ha2s (by omega)).mono ?_
    obtain ⟨be, hbe⟩ : ∃ be, eats s a2 bad1 58 = be := ⟨_, rfl⟩
    rintro e w5 ⟨he5, hr7, hk7⟩
    rw [hbe] at he5 hr7
    obtain rfl := he5
    have HBE := Lib.hid hbe
    have hst7 := HST.out.kept' hk7
    have HR7 := Lib.hid hr7
    have HS7 := Lib.hid hst7
    clear hr7 hk7 hst7 hXf hX0 hbe
    go_upto_if 33 with fail
    go_cut [] (fun wx => ∃ d a3 dv, RdSt L w n (eats s a bad 95) d w2.heap.size dv (.slice none 0 0) [] [] wx ∧ Rd L s a3 bad1 wx ∧ a3 ≤ s.size ∧ rtree s (f + 1) a bad = rtail (rtree s f) s n (eats s a bad 95) d a3 bad1)
    case first =>
      rcases be with _ | _
      rotate_left
      · obtain ⟨hb0, hlt⟩ := eats_bad HBE.out
        have HE := Lib.hid hb0
        have hr8 := HR7.out
        rw [if_pos rfl] at hr8
        have HR8 := Lib.hid hr8
        clear hb0 hr8
        go_wp2_with fail
        refine (while_any L s dig16 _ bad1 _ HR8.out (by omega) (by omega)).mono ?_
        rintro e w6 ⟨he6, hr9, hk9⟩
        have hrl := run_le s dig16 (a2 + 1) (by omega)
        obtain ⟨D, hD⟩ : ∃ D : ByteArray, s.extract (a2 + 1) (a2 + 1 + run_ s dig16 (a2 + 1)) = D := ⟨_, rfl⟩
        have hDs : D.size = run_ s dig16 (a2 + 1) := by rw [← hD]; simp; omega
        rw [hD] at he6
        obtain rfl := he6
        have hDle : D.size ≤ s.size := by omega
        have HD := Lib.hid (And.intro hD hDs)
        have HR9 := Lib.hid hr9
        have HS9 := Lib.hid (HS7.out.kept' hk9)
        clear hD hDs hr9 hk9
        by_cases hz : D.size = 0
        · have hzb : ((D.size : Int) == 0) = true := by rw [beq_iff_eq]; omega
          have HZ := Lib.hid hz
          clear hz
          go_wp2_with fail
          refine (wrong_any L s _ bad1 5 _ HR9.out).mono ?_
          rintro e w7 ⟨rfl, hr, hk⟩
          have hs10 := HS9.out.kept' hk
          have hR := fun j => cell_of_heap (j := j) hs10.res
          have hRf := fun j => free_of_heap (j := j) hs10.res
          have R0 := hR 0
          have R1 := hR 1
          have R2 := hR 2
          have R3 := hR 3
          simp only [List.getElem?_toArray, List.getElem?_cons_succ, List.getElem?_cons_zero] at R0 R1 R2 R3
          have HR := Lib.hid hr
          have HK := Lib.hid hs10.kept
          clear hr hk hR hs10
          go_wp2_with fail
          refine bodyPost_ret (v := .agg #[.int .u64 0, .bool false, .slice none 0 0, .slice none 0 0]) (by simp [results, Try.results25, go_sem, R0, R1, R2, R3]) rfl ?_
          have hDs := HD.out.2
          have e := rtree_bad (f := f) HQ.out HBE.out (by have := HZ.out; omega)
          rw [e]
          exact ⟨_, _, _, rfl, owned_zero _ _, HR.out.up (below4 (L + 1) w7 w.heap.size (by omega) _ _ _ _) (by omega), HK.out.more (below4 w.heap.size w7 w.heap.size (Nat.le_refl _) _ _ _ _)⟩
        · have hzb : ((D.size : Int) == 0) = false := by rw [beq_eq_false_iff_ne]; omega
          by_cases ho : D.size % 2 = 0
          · have hob : ((D.size : Int) % 2 != 0) = false := by rw [bne_eq_false_iff_eq]; omega
            have HZ := Lib.hid (And.intro hz ho)
            clear ho hz
            go_wp2_with fail
            go_loopw [9] (fun i wr => DataInv L s w n (eats s a bad 95) D (a2 + 1 + run_ s dig16 (a2 + 1)) bad1 w2.heap.size i wr) (fun i _ => D.size - (intOf i).toNat)
            case atStart => exact ⟨0, 0, [], _, rfl, rfl, Nat.zero_le _, by simp [pairsV], HS9.out, HR9.out⟩
            case round =>
              obtain ⟨j, J, d, dv, rfl, hJ, hle, hd', hst', hr'⟩ := hrel
              obtain ⟨da, dc, rfl⟩ := owned_form hst'.data
              have hO2 := cell_of_heap (j := 2) hst'.out
              have hOf := free_of_heap (j := 2) hst'.out
              simp only [List.getElem?_toArray, List.getElem?_cons_succ, List.getElem?_cons_zero] at hO2
              by_cases hlt : J < D.size
              · have hlt1 : J + 1 < D.size := by have := HZ.out.2; omega
                have i0' : (0 : Int) ≤ (J : Int) := by omega
                have i1 : (J : Int) < (D.size : Int) := by omega
                have i2 : (0 : Int) ≤ (J : Int) + 1 := by omega
                have i3 : (J : Int) + 1 < (D.size : Int) := by omega
                have hw1 : IntKind.i64.wrap ((J : Int) + 1) = (J : Int) + 1 := by rw [IntKind.wrap_i64]; omega
                have hw2 : IntKind.i64.wrap ((J : Int) + 2) = (J : Int) + 2 := by rw [IntKind.wrap_i64]; omega
                have hdl : d.length ≤ 1048576 := by rw [hd', pairsV_len, List.length_take]; omega
                have hc1 : d.length + 1 ≤ maxLen := by unfold maxLen; omega
                have hc2 : (d.length + 1) * 1 ≤ 140737488355328 := by omega
                have hOlt := hst'.Olt
                have hO1 := hst'.O1
                have hw3 : ∀ o, ((wr.alloc o).drew).ownsRow (w.heap.size + 1) 5 1 (.slice da d.length dc) d.length (d.map byteV) := fun o => owned_kept hst'.data (Nat.le_refl _) (fun g hg => heap_old o (owned_lt hst'.data g hg).2)
                have hc3 : ∀ o, w.heap.size + 1 ≤ ((wr.alloc o).drew).heap.size := fun o => by show _ ≤ (wr.alloc o).heap.size; rw [size_al]; omega
                have hnw : ∀ (V : Int) (T : TypeId), ∀ j u, [Value.int .u8 V][j]? = some u → ((wr.alloc (.cells #[.int .u8 V] T)).drew).cell? ((⟨wr.heap.size, 0, none⟩ : Addr).add j) = some u := fun V T => World.news_of_block (w := (wr.alloc (.cells #[.int .u8 V] T)).drew) (heap_new wr _)
                have hsz : ∀ o, ((wr.alloc o).drew).heap.size = wr.heap.size + 1 := fun o => size_al wr o
                have hone : ∀ z : Int, ∀ u ∈ [Value.int .u8 z], u.oneCell' = true := fun z u hu => by rw [List.mem_singleton.mp hu]; rfl
                have HOUT := Lib.hid hst'.out
                have HdO := Lib.hid hst'.dO
                have HD' := Lib.hid (And.intro hJ hd')
                have HST' := Lib.hid hst'
                have HR' := Lib.hid hr'
                obtain ⟨i0, hi, hz0, hz1, hz2⟩ := info_parts info_u8
                clear hJ hd' hst' hr'
                go_wp2_with fail
                have HC := Lib.hid (And.intro hw3 (And.intro hc3 (And.intro hone (And.intro hc1 hc2))))
                have HN := Lib.hid (And.intro hnw hsz)
                clear hw3 hc3 hone hc1 hc2 hdl hnw hsz
                go_region_law (first
                  | (refine step_append_lies _ (by rfl) _ _ 23 (by rfl) (w.heap.size + 1) 5 i0 (.int .u8 0) 1 1 Try.underlying23 hi hz0 hz1 hz2 rfl (by decide) (.slice da d.length dc) d.length (d.map byteV) (by rfl) (HC.out.1 _) ⟨wr.heap.size, 0, none⟩ 1 1 [.int .u8 _] (by rfl) rfl (HN.out.1 _ _) (HC.out.2.2.1 _) (by omega) HC.out.2.2.2.1 HC.out.2.2.2.2 (HC.out.2.1 _) (wr.heap.size + 1) (HN.out.2 _) ?_
                     intro g4 cap4 w4 hown4 hgrow hat hlt4
                     have hO4 : w4.heap[w2.heap.size]? = some (.cells #[.int .u64 (n : Int), .bool (eats s a bad 95), .slice da d.length dc, .slice none 0 0] 26 (0, 0)) := (hgrow.block w2.heap.size (by rw [HN.out.2]; omega) (fun e => HdO.out e.symm)).trans ((heap_old _ hOlt).trans HOUT.out)
                     have cell4 := cell_of_heap (j := 2) hO4
                     have free4 : w4.frozen? ⟨w2.heap.size, 2, none⟩ = false := free_of_heap hO4
                     simp only [List.getElem?_toArray, List.getElem?_cons_succ, List.getElem?_cons_zero] at cell4
                     clear hO4)
                  | (go_simp
                     go_at_call 35
                     refine (ix_any dig16 _ _).mono ?_
                     rintro e w8 ⟨rfl, rfl⟩))
                all_goals
                  go_wp2_with fail
                  refine ⟨⟨j + 1, J + 2, _, _, rfl, by have := HD'.out.1; omega, by omega, ?_, RdSt.byte (x := pairV D[J] D[J + 1]) HST'.out (below_al (Below.refl wr.heap.size wr) _).drew hgrow ?_ ?_, ?_⟩, by simp [intOf]; omega⟩
                  · obtain ⟨hJ, hd'⟩ := HD'.out
                    subst hJ
                    rw [hd', pairsV_more _ j (by simpa using hlt1)]; rfl
                  · rw [byteV, pairV_val]; exact hown4
                  · rcases hat with h | h
                    · exact .inl h.symm
                    · right; rw [h]; exact congrArg some (HN.out.2 _).symm
                  · have hLg : (Value.slice da d.length dc).ownBlock ≠ some L := fun e => by have := owned_lt HST'.out.data _ e; omega
                    exact (heap_setCell_ne (by omega)).trans ((hgrow.block L (by rw [HN.out.2]; omega) (fun e => hLg e.symm)).trans ((heap_old _ (by omega)).trans HR'.out))
              · have HST' := Lib.hid hst'
                have HR' := Lib.hid hr'
                have HD' := Lib.hid hd'
                have hJ' := Lib.hid (And.intro hJ hle)
                clear hst' hr' hd' hJ hle
                go_wp2_with fail
                go_meet
                have hDs := HD.out.2
                refine ⟨_, _, _, HST'.out, HR'.out, by omega, ?_⟩
                have e := rtree_data (f := f) HQ.out HBE.out (by have := HZ.out; omega)
                rw [HD.out.1] at e
                rw [e, HD'.out, List.take_of_length_le (by simp; have := hJ'.out; omega)]
          · have hob : ((D.size : Int) % 2 != 0) = true := by rw [bne_iff_ne]; omega
            have HZ := Lib.hid ho
            clear ho hz
            go_wp2_with fail
            refine (wrong_any L s _ bad1 5 _ HR9.out).mono ?_
            rintro e w7 ⟨rfl, hr, hk⟩
            have hs10 := HS9.out.kept' hk
            have hR := fun j => cell_of_heap (j := j) hs10.res
            have hRf := fun j => free_of_heap (j := j) hs10.res
            have R0 := hR 0
            have R1 := hR 1
            have R2 := hR 2
            have R3 := hR 3
            simp only [List.getElem?_toArray, List.getElem?_cons_succ, List.getElem?_cons_zero] at R0 R1 R2 R3
            have HR := Lib.hid hr
            have HK := Lib.hid hs10.kept
            clear hr hk hR hs10
            go_wp2_with fail
            refine bodyPost_ret (v := .agg #[.int .u64 0, .bool false, .slice none 0 0, .slice none 0 0]) (by simp [results, Try.results25, go_sem, R0, R1, R2, R3]) rfl ?_
            have hDs := HD.out.2
            have e := rtree_bad (f := f) HQ.out HBE.out (by have := HZ.out; omega)
            rw [e]
            exact ⟨_, _, _, rfl, owned_zero _ _, HR.out.up (below4 (L + 1) w7 w.heap.size (by omega) _ _ _ _) (by omega), HK.out.more (below4 w.heap.size w7 w.heap.size (Nat.le_refl _) _ _ _ _)⟩
      · go_wp2_with fail
        go_meet
        have e := rtree_none (f := f) HQ.out HBE.out
        exact ⟨[], a2, _, HS7.out, HR7.out, ha2s, e⟩
    case rest =>
      obtain ⟨d, a3, dv, hst8, hr8, ha3, hrt⟩ := hcut
      have HRT := Lib.hid hrt
      have HST8 := Lib.hid hst8
      have HR8 := Lib.hid hr8
      clear hrt hst8 hr8
      go_wp2_with fail
      obtain ⟨be2, hbe2⟩ : ∃ be2, eats s a3 bad1 40 = be2 := ⟨_, rfl⟩
      refine (eat_any L s a3 bad1 40 _ HR8.out ha3 (by omega)).mono ?_
      rintro e w9 ⟨he9, hr9, hk9⟩
      rw [hbe2] at he9 hr9
      obtain rfl := he9
      have HBE2 := Lib.hid hbe2
      have hst9 := HST8.out.kept' hk9
      have hr9' := hr9
      have HR9 := Lib.hid hr9
      have HST9 := Lib.hid hst9
      clear hr9 hk9 hst9 hbe2
      rcases be2 with _ | _
      · obtain ⟨da, dc, rfl⟩ := owned_form HST9.out.data
        have HSTX := HST9
        have hst10 := HSTX.out
        have hO0 := cell_of_heap (j := 0) hst10.out
        have hO1' := cell_of_heap (j := 1) hst10.out
        have hO2 := cell_of_heap (j := 2) hst10.out
        have hO3 := cell_of_heap (j := 3) hst10.out
        have hR := fun j => cell_of_heap (j := j) hst10.res
        have hRf := fun j => free_of_heap (j := j) hst10.res
        simp only [List.getElem?_toArray, List.getElem?_cons_succ, List.getElem?_cons_zero] at hO0 hO1' hO2 hO3
        have R0 := hR 0
        have R1 := hR 1
        have R2 := hR 2
        have R3 := hR 3
        simp only [List.getElem?_toArray, List.getElem?_cons_succ, List.getElem?_cons_zero] at R0 R1 R2 R3
        clear hR hst10
        go_wp2_with fail
        refine bodyPost_ret (v := .agg #[.int .u64 (n : Int), .bool (eats s a bad 95), .slice da d.length dc, .slice none 0 0]) (by simp [results, Try.results25, go_sem, R0, R1, R2, R3]) rfl ?_
        rw [HRT.out, rtail, if_neg (by rw [HBE2.out]; simp)]
        obtain ⟨f1, f2⟩ := HST9.out.finish (.int .u64 (n : Int)) (.bool (eats s a bad 95)) (.slice da d.length dc) (.slice none 0 0)
        exact ⟨_, _, _, rfl, f1, HR9.out.up (below4 (L + 1) w9 w.heap.size (by omega) _ _ _ _) (by omega), f2⟩
      · obtain ⟨hb0, hlt3⟩ := eats_bad HBE2.out
        obtain rfl := hb0
        rw [if_pos rfl] at hr9'
        have HRK := Lib.hid hr9'
        clear hr9'
        go_upto_block 2 with fail
        go_cut [] (fun wx => ∃ ks kxs kv ka kb, RdSt L w n (eats s a bad 95) d w2.heap.size dv kv ks kxs wx ∧ Rd L s ka kb wx ∧ ka ≤ s.size ∧ rkids (rtree s f) s (2 * s.size + 3) true (a3 + 1) 0 = (ks, ka, kb))
        case first =>
          go_wp2_with fail
          go_loopw [10] (fun more wr => PartInv (rtree s f) L s w n (eats s a bad 95) d w2.heap.size dv (rkids (rtree s f) s (2 * s.size + 3) true (a3 + 1) 0) more wr) (fun more wr => 2 * (s.size - (intOf (peek wr L 1)).toNat) + mB more)
          case atStart => exact ⟨true, 2 * s.size + 3, a3 + 1, 0, [], [], _, rfl, HST9.out, HRK.out, by omega, by simp, fun _ _ => by simp, by simp only [mB]; omega, rfl⟩
          case round =>
            obtain ⟨m, N, ka, kb, ks, kxs, kv, rfl, hst', hr', hka, hkl, hkm, hN, hgoal⟩ := hrel
            obtain ⟨c0, c1, c2, cf⟩ := hr'.cells
            have HSTX := Lib.hid hst'
            have HRX := Lib.hid hr'
            have HG := Lib.hid hgoal
            clear hst' hr' hgoal c0 c1
            rcases m with _ | _
            · have hfin : rkids (rtree s f) s (2 * s.size + 3) true (a3 + 1) 0 = (ks, ka, kb) := by
                rw [← HG.out]
                obtain ⟨N, rfl⟩ : ∃ N', N = N' + 1 := ⟨N - 1, by omega⟩
                rw [rkids, if_neg (by simp)]
                simp
              have HF := Lib.hid hfin
              clear hfin
              go_wp2_with fail
              go_meet
              exact ⟨_, _, _, _, _, HSTX.out, HRX.out, hka, HF.out⟩
            · by_cases hkb : kb = 0
              · obtain rfl := hkb
                obtain ⟨⟨kt, kat, kbt⟩, hkr⟩ : ∃ r, rtree s f ka 0 = r := ⟨_, rfl⟩
                obtain ⟨N, rfl⟩ : ∃ N', N = N' + 1 := ⟨N - 1, by omega⟩
                have hgn : (ks ++ [kt] ++ (rkids (rtree s f) s N (eats s kat kbt 44) (step s kat kbt 44) kbt).1, (rkids (rtree s f) s N (eats s kat kbt 44) (step s kat kbt 44) kbt).2) = rkids (rtree s f) s (2 * s.size + 3) true (a3 + 1) 0 := by
                  rw [← HG.out, rkids, if_pos ⟨rfl, rfl⟩, hkr]; simp
                have HGN := Lib.hid hgn
                have HPK := Lib.hid (show peek wr L 1 = .int .i64 (ka : Int) from peek_eq HRX.out.cells.2.1)
                simp only [mB] at hN
                clear hgn
                have hrd := rtree_bd s f ka 0 hka
                rw [hkr] at hrd
                obtain ⟨r1, r2, -, r4⟩ := hrd
                simp only at r1 r2 r4
                have hdp : deep + 1 + f = 401 := by omega
                have hwd : IntKind.i64.wrap ((deep : Int) + 1) = ((deep + 1 : Nat) : Int) := by rw [IntKind.wrap_i64]; omega
                obtain ⟨ka2, kc2, rfl⟩ := owned_form HSTX.out.kids
                have hO3 := cell_of_heap (j := 3) HSTX.out.out
                have hOf := free_of_heap (j := 3) HSTX.out.out
                simp only [List.getElem?_toArray, List.getElem?_cons_succ, List.getElem?_cons_zero] at hO3
                have HDP := Lib.hid hdp
                have HHK := Lib.hid (hkm rfl rfl)
                have HKR := Lib.hid hkr
                have HRR := Lib.hid (And.intro r1 (And.intro r2 r4))
                have hOlt := HSTX.out.Olt
                have hO1 := HSTX.out.O1
                have hLO : L ≠ w2.heap.size := by omega
                have HB := Lib.hid (And.intro hka (And.intro hkl (And.intro hN hs)))
                have hcall : ∀ W : World, Rd L s ka 0 W → Calls Try.prog 25 #[.pointer (some ⟨L, 0, none⟩), .int .i64 (((deep + 1 : Nat)) : Int)] W (fun e w' => ∃ dv2 kv2 kxs2, e = .returned (.agg #[.int .u64 (kt.num : Int), .bool kt.blank, dv2, kv2]) ∧ Owned W.heap.size kt dv2 kv2 kxs2 w' ∧ Rd L s kat kbt w' ∧ Kept L W w') := by
                  intro W h
                  have h1 := IH.out L s ka 0 (deep + 1) W hdp h hka hs
                  rw [hkr] at h1
                  exact h1
                have HCALL := Lib.hid hcall
                clear hkm hkr r1 r2 r4 hdp hkl hN hcall
                obtain ⟨i0, hi, hz0, hz1, hz2⟩ := info_parts info_tree
                have hone : ∀ (ad2 ak2 : Option Addr) (cd2 ck2 : Nat), ∀ u ∈ [Value.int .u64 (kt.num : Int), .bool kt.blank, .slice ad2 kt.data.length cd2, .slice ak2 kt.kids.length ck2], u.oneCell' = true := by
                  intro ad2 ak2 cd2 ck2 u hu
                  simp only [List.mem_cons, List.not_mem_nil, or_false] at hu
                  rcases hu with rfl | rfl | rfl | rfl <;> rfl
                have HONE := Lib.hid hone
                have HC1 := Lib.hid (show ks.length + 1 ≤ maxLen by have := HHK.out; unfold maxLen; omega)
                have HC2 := Lib.hid (show (ks.length + 1) * 64 ≤ 140737488355328 by have := HHK.out; omega)
                clear hone
                go_wp2_with fail
                go_region_law (first
                  | (refine step_append_lies _ (by rfl) _ _ 24 (by rfl) (w.heap.size + 1) 26 i0 (.agg #[.int .u64 0, .bool false, .slice none 0 0, .slice none 0 0]) 4 64 Try.underlying24 hi hz0 hz1 hz2 rfl (by decide) (.slice ka2 ks.length kc2) ks.length kxs (by rfl) (HP3.out.1 _) ⟨wk.heap.size, 0, none⟩ 1 1 [.int .u64 (kt.num : Int), .bool kt.blank, .slice ad2 kt.data.length cd2, .slice ak2 kt.kids.length ck2] (by rfl) rfl (World.news_of_block (heap_new wk _)) (HONE.out _ _ _ _) (by omega) HC1.out HC2.out (HP3.out.2 _) (wk.heap.size + 1) (size_al _ _) ?_
                     intro g4 cap4 w4 hown4 hgrow hat hlt4
                     have hO4 : w4.heap[w2.heap.size]? = some (.cells #[.int .u64 (n : Int), .bool (eats s a bad 95), dv, .slice ka2 ks.length kc2] 26 (0, 0)) := (hgrow.block w2.heap.size (by rw [size_al]; omega) (fun e => HSTX.out.kO e.symm)).trans ((heap_old _ (by omega)).trans ((HKK.out.block _ hOlt (by omega)).trans HSTX.out.out))
                     have cell4 : w4.cell? ⟨w2.heap.size, 3, none⟩ = some (.slice ka2 ks.length kc2) := cell_any hO4
                     have free4 : w4.frozen? ⟨w2.heap.size, 3, none⟩ = false := free_of_heap hO4
                     clear hO4)
                  | (go_simp
                     go_at_call 25
                     refine (HCALL.out _ (HRX.out.up (Below.refl _ _).drew HRX.out.lt)).mono ?_
                     rintro e wk ⟨dv2, kv2, kxs2, rfl, hown2, hr2, hk2⟩
                     obtain ⟨ad2, cd2, rfl⟩ := owned_form hown2.data
                     obtain ⟨ak2, ck2, rfl⟩ := owned_form hown2.kids
                     have hkk : Kept L wr wk := (Kept.of_below (Below.refl _ _).drew).trans hk2
                     have hwk := hkk.size
                     have hown3 : ∀ o, (wk.alloc o).ownsRow (w.heap.size + 1) 26 4 (.slice ka2 ks.length kc2) ks.length kxs := fun o => owned_kept HSTX.out.kids (Nat.le_refl _) (fun g hg => (heap_old o (Nat.lt_of_lt_of_le (owned_lt HSTX.out.kids g hg).2 hwk)).trans (hkk.block g (owned_lt HSTX.out.kids g hg).2 (by have := owned_lt HSTX.out.kids g hg; omega)))
                     have hc3 : ∀ o, w.heap.size + 1 ≤ (wk.alloc o).heap.size := fun o => by rw [size_al]; omega
                     have cell2 : wk.cell? ⟨w2.heap.size, 3, none⟩ = some (.slice ka2 ks.length kc2) := cell_any ((hkk.block _ hOlt (by omega)).trans HSTX.out.out)
                     have cell3 : ∀ o, (wk.alloc o).cell? ⟨w2.heap.size, 3, none⟩ = some (.slice ka2 ks.length kc2) := fun o => cell_alloc' (Nat.lt_of_lt_of_le hOlt hwk) cell2
                     have HP3 := Lib.hid (And.intro hown3 hc3)
                     have HKK := Lib.hid hkk
                     have HOW := Lib.hid hown2
                     have HRW := Lib.hid hr2
                     clear hown3 hc3 hkk hown2 hr2 hk2))
                all_goals
                  have HSTN := Lib.hid (RdSt.kid HSTX.out _ (Nat.le_refl _) HKK.out HOW.out (below_al (Below.refl _ _) _) hgrow hown4 (by
                    rcases hat with h | h
                    · exact .inl h.symm
                    · right; rw [h, size_al]; rfl))
                  have hkL : (Value.slice ka2 ks.length kc2).ownBlock ≠ some L := fun e => by have := owned_lt HSTX.out.kids _ e; omega
                  have HRN := Lib.hid (show ∀ v, Rd L s kat kbt (w4.setCell ⟨w2.heap.size, 3, none⟩ v) from fun v => (heap_setCell_ne hLO).trans ((hgrow.block L (by rw [size_al]; have := HRW.out.lt; omega) (fun e => hkL e.symm)).trans ((heap_old _ HRW.out.lt).trans HRW.out)))
                  clear hgrow hown4 hat hlt4 hkL cell4 free4 cell2 cell3
                  go_wp2_with fail
                  obtain ⟨be4, hbe4⟩ : ∃ be4, eats s kat kbt 44 = be4 := ⟨_, rfl⟩
                  refine (eat_any L s kat kbt 44 _ (HRN.out _) HRR.out.2.1 (by omega)).mono ?_
                  rintro e w9 ⟨he9', hr9', hk9'⟩
                  rw [hbe4] at he9' hr9'
                  obtain rfl := he9'
                  have HSTM := Lib.hid (HSTN.out.kept' hk9')
                  have HRM := Lib.hid hr9'
                  have HBE4 := Lib.hid hbe4
                  clear hr9' hk9' hbe4
                  go_wp2_with fail
                  have hgn := HGN.out
                  rw [show step s kat kbt 44 = (if be4 = true then kat + 1 else kat) from by simp only [step, HBE4.out], HBE4.out] at hgn
                  obtain ⟨r1, r2, -⟩ := HRR.out
                  have hbb := HB.out
                  have hhk := HHK.out
                  have hbnd : (if be4 = true then kat + 1 else kat) ≤ s.size ∧ (if be4 = true then kat + 1 else kat) ≥ kat + mB (.bool be4) ∧ (be4 = true → kat < s.size) := by
                    rcases be4 with _ | _
                    · simp [mB]; omega
                    · obtain ⟨_, h2⟩ := eats_bad HBE4.out
                      simp [mB]; omega
                  have hmb : mB (.bool be4) ≤ 1 := by cases be4 <;> simp [mB]
                  have hmb1 : be4 = true → mB (.bool be4) = 1 := by rintro rfl; rfl
                  have hmb0 : be4 = false → mB (.bool be4) = 0 := by rintro rfl; rfl
                  refine ⟨⟨be4, N, _, kbt, ks ++ [kt], _, _, rfl, HSTM.out, HRM.out, hbnd.1, ?_, ?_, ?_, hgn⟩, ?_⟩
                  · rw [List.length_append, List.length_singleton]; omega
                  · intro h1 _
                    have := hmb1 h1
                    rw [List.length_append, List.length_singleton]; omega
                  · rcases hb4 : be4 with _ | _
                    · have := hmb0 hb4; subst hb4; simp [mB]; omega
                    · have := hbnd.2.2 hb4; subst hb4; simp [mB]; omega
                  · rw [HPK.out, peek_eq HRM.out.cells.2.1]
                    simp only [intOf, Int.toNat_natCast]
                    rcases hb4 : be4 with _ | _
                    · have := hmb0 hb4; subst hb4; simp [mB]; omega
                    · have := hbnd.2.2 hb4; subst hb4; simp [mB]; omega
              · have hkbb : (kb == 0) = false := by rw [beq_eq_false_iff_ne]; exact hkb
                have hfin : rkids (rtree s f) s (2 * s.size + 3) true (a3 + 1) 0 = (ks, ka, kb) := by
                  rw [← HG.out]
                  obtain ⟨N, rfl⟩ : ∃ N', N = N' + 1 := ⟨N - 1, by omega⟩
                  rw [rkids, if_neg (by simp [hkb])]
                  simp
                have HF := Lib.hid hfin
                clear hfin hkb
                go_wp2_with fail
                go_meet
                exact ⟨_, _, _, _, _, HSTX.out, HRX.out, hka, HF.out⟩
        case rest =>
          obtain ⟨ks, kxs, kv, ka, kb, hst', hr', hka, hfin⟩ := hcut
          have HSTX := Lib.hid hst'
          have HRX := Lib.hid hr'
          have HF := Lib.hid hfin
          clear hst' hr' hfin
          go_wp2_with fail
          obtain ⟨be3, hbe3⟩ : ∃ be3, eats s ka kb 41 = be3 := ⟨_, rfl⟩
          refine (eat_any L s ka kb 41 _ HRX.out hka (by omega)).mono ?_
          rintro e w10 ⟨he10, hr10, hk10⟩
          rw [hbe3] at he10 hr10
          obtain rfl := he10
          have hend : rtree s (f + 1) a bad = (.node n (eats s a bad 95) d ks, if be3 = true then ka + 1 else ka, if be3 = true then kb else worse kb 5) := by
            rw [HRT.out, rtail, if_pos HBE2.out, HF.out]
            simp only [step, hbe3]
          have HEND := Lib.hid hend
          have HSTY := Lib.hid (HSTX.out.kept' hk10)
          have HRY := Lib.hid hr10
          clear hr10 hk10 hbe3 hend
          go_upto_if 96 with fail
          go_cut [] (fun wx => RdSt L w n (eats s a bad 95) d w2.heap.size dv kv ks kxs wx ∧ Rd L s (if be3 = true then ka + 1 else ka) (if be3 = true then kb else worse kb 5) wx)
          case first =>
            rcases be3 with _ | _
            · go_wp2_with fail
              refine (wrong_any L s ka kb 5 _ HRY.out).mono ?_
              rintro e w11 ⟨rfl, hr11, hk11⟩
              have HSTZ := Lib.hid (HSTY.out.kept' hk11)
              have HRZ := Lib.hid hr11
              clear hr11 hk11
              go_wp2_with fail
              go_meet
              exact ⟨HSTZ.out, HRZ.out⟩
            · go_wp2_with fail
              go_meet
              exact ⟨HSTY.out, HRY.out⟩
          case rest =>
            obtain ⟨hst11, hr11⟩ := hcut
            have HSTZ := Lib.hid hst11
            have HRZ := Lib.hid hr11
            clear hst11 hr11
            obtain ⟨da, dc, rfl⟩ := owned_form HSTZ.out.data
            obtain ⟨xa, xc, rfl⟩ := owned_form HSTZ.out.kids
            have hst10 := HSTZ.out
            have hO0 := cell_of_heap (j := 0) hst10.out
            have hO1' := cell_of_heap (j := 1) hst10.out
            have hO2 := cell_of_heap (j := 2) hst10.out
            have hO3 := cell_of_heap (j := 3) hst10.out
            have hR := fun j => cell_of_heap (j := j) hst10.res
            have hRf := fun j => free_of_heap (j := j) hst10.res
            simp only [List.getElem?_toArray, List.getElem?_cons_succ, List.getElem?_cons_zero] at hO0 hO1' hO2 hO3
            have R0 := hR 0
            have R1 := hR 1
            have R2 := hR 2
            have R3 := hR 3
            simp only [List.getElem?_toArray, List.getElem?_cons_succ, List.getElem?_cons_zero] at R0 R1 R2 R3
            clear hR hst10
            go_wp2_with fail
            refine bodyPost_ret (v := .agg #[.int .u64 (n : Int), .bool (eats s a bad 95), .slice da d.length dc, .slice xa ks.length xc]) (by simp [results, Try.results25, go_sem, R0, R1, R2, R3]) rfl ?_
            rw [HEND.out]
            obtain ⟨f1, f2⟩ := HSTZ.out.finish (.int .u64 (n : Int)) (.bool (eats s a bad 95)) (.slice da d.length dc) (.slice xa ks.length xc)
            exact ⟨_, _, _, rfl, f1, HRZ.out.up (below4 (L + 1) wc w.heap.size (by omega) _ _ _ _) (by omega), f2⟩
end Go.Proofs.Ytdogiobppeemiaa
