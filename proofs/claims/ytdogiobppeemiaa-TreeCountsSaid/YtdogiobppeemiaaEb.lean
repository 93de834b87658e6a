/- tree.Each, with the law's first function: the walk. -/
import Derived.Test.YtdogiobppeemiaaEa
namespace Go.Proofs.Ytdogiobppeemiaa
set_option linter.unusedSimpArgs false
set_option linter.unusedVariables false
open Go.RowKit

/-- What the function that is handed in does: it counts in the cell L. -/
def Yields1 (P : Value) (g : Int → Bool) (L : Nat) (w0 : World) : Prop :=
  ∀ (x : Tr) (ad ak : Option Addr) (cd ck : Nat) (m : Int) (W : World), 0 ≤ m → m ≤ 1000000 → Kept L w0 W → W.heap[L]? = some (.cells #[.int .i64 m] 3 (0, 0)) →
    Calls Try.prog 19 #[.agg #[.int .u64 (x.num : Int), .bool x.blank, .slice ad x.data.length cd, .slice ak x.kids.length ck], P] W fun e w' => e = .returned (.bool (g (m + 1))) ∧ w'.heap[L]? = some (.cells #[.int .i64 (m + 1)] 3 (0, 0)) ∧ Kept L W w'
def EachSaid1 (P : Value) (g : Int → Bool) (L : Nat) (w0 : World) (k : Nat) : Prop := ∀ (t : Tr) (dv kv : Value) (B : Nat) (m : Int) (w : World), t.size ≤ k → 0 ≤ m → m + (t.size : Int) ≤ 1000000 → B ≤ L → Kept L w0 w → TrAt (· < B) w t dv kv → w.heap[L]? = some (.cells #[.int .i64 m] 3 (0, 0)) →
    Calls Try.prog 18 #[.agg #[.int .u64 (t.num : Int), .bool t.blank, dv, kv], .func (.func 19) #[] #[P]] w (EachPost g t m L w)
set_option maxHeartbeats 3200000 in
theorem each_step1 (P : Value) (g : Int → Bool) (L : Nat) (w0 : World) (hY : Yields1 P g L w0) (k : Nat) (ih : EachSaid1 P g L w0 k) : EachSaid1 P g L w0 (k + 1) := by
  intro t dv kv B m w hk hm0 hm1 hB hkw ht hc
  obtain ⟨n, b, d, ks⟩ := t
  obtain ⟨a, cap, e, h1, h2, _, hks⟩ := kids_form ht.kids
  obtain ⟨ad, cd, ak, ck, rfl, rfl, h3, h4, _, _⟩ := ht.form
  simp only [Value.slice.injEq] at e hks h1 h2 h3 h4
  obtain ⟨rfl, _, rfl⟩ := e
  have hml : ks.length ≤ 9223372036854775807 := by unfold maxLen at h2; omega
  have hL : L < w.heap.size := cell_lt (cell_of_heap (j := 0) hc)
  have hy := fun A => hY (.node n b d ks) ad ak cd ck m (w.alloc A) hm0 (by have := Tr.size_pos (.node n b d ks); omega) (hkw.alloc A) ((heap_old A hL).trans hc)
  have HY := Lib.hid hy
  have IH := Lib.hid ih
  have HK := Lib.hid hks
  have HT := Lib.hid ht
  have HKW := Lib.hid hkw
  clear ih hks ht h1 h2 h3 h4 hy hY hkw
  go_enter Try.func18, Try.ntmps18
  go_wp2_with fail
  refine (HY.out _).mono ?_
  rintro e w2 ⟨rfl, hc2, hk2⟩
  have hkp2 : Kept L w w2 := ((Kept.refl L w).alloc _).trans hk2
  have hbox : w2.heap[w.heap.size]? = some (.cells #[.int .u64 (n : Int), .bool b, .slice ad d.length cd, .slice ak ks.length ck] 26 (0, 0)) := (hk2.block _ (by rw [size_al]; omega) (by omega)).trans (heap_new _ _)
  have q3 := cell_any hbox
  have HC2 := Lib.hid hc2
  have HKP2 := Lib.hid hkp2
  clear hk2 hc2 hbox
  obtain ⟨bb, hbb⟩ : ∃ bb, g (m + 1) = bb := ⟨_, rfl⟩
  have HBB := Lib.hid hbb
  rw [hbb]
  clear hbb hkp2
  rcases bb with _ | _
  · have hf : Tr.each g ⟨n, b, d, ks⟩ m = (false, m + 1) := by rw [Tr.each, if_neg (by rw [HBB.out]; simp)]
    have HF := Lib.hid hf
    clear hf q3
    go_wp2_with fail
    go_ret
    exact ⟨ret_b (by rw [HF.out]), by rw [HF.out]; exact HC2.out, HKP2.out⟩
  · have hf : Tr.each g ⟨n, b, d, ks⟩ m = Tr.eachs g ks (m + 1) := by rw [Tr.each, if_pos HBB.out]
    have HF := Lib.hid hf
    rw [Tr.size] at hk hm1
    have hI : EachInv g ks (m + 1) L w (.int .i64 0) w2 := ⟨0, m + 1, by omega, rfl, HC2.out, by omega, by rw [List.drop_zero]; omega, rfl, HKP2.out⟩
    have HI := Lib.hid hI
    clear hf hI
    go_wp2_with fail
    go_loopw [14] (fun i wr => EachInv g ks (m + 1) L w i wr) (fun i _ => ks.length - (intOf i).toNat)
    case atStart => exact HI.out
    case round =>
      obtain ⟨j, l, hj, rfl, hcl, hl0', hl1', hfw, hkp⟩ := hrel
      clear q3
      by_cases hlt : j < ks.length
      · obtain ⟨gg, off, rfl, hg, hcc⟩ := HK.out.resolve_left (by intro h; subst h; simp at hlt)
        obtain ⟨dv', kv', c0, c1, c2, c3, ht'⟩ := hcc j hlt
        have hgs : gg < w.heap.size := by have : gg < B := hg; omega
        have hgL : gg ≠ L := by have : gg < B := hg; omega
        have hcell := fun i => World.cell?_of_block (a := ⟨gg, i, none⟩) (hkp.block gg hgs hgL)
        rw [← hcell] at c0 c1 c2 c3
        have hdr : ks.drop j = ks[j] :: ks.drop (j + 1) := List.drop_eq_getElem_cons hlt
        rw [hdr, Tr.eachs] at hfw
        rw [hdr, Tr.sizes] at hl1'
        have hle := Tr.sizes_at j hlt
        have hjs : ks[j].size ≤ k := by omega
        have hbd := Tr.each_bd g ks[j] l
        obtain ⟨ad', cd', ak', ck', rfl, rfl, _, _, _, _⟩ := ht'.form
        have HT' := Lib.hid ht'
        have HCC := Lib.hid hcc
        have HFW := Lib.hid hfw
        have HKP := Lib.hid hkp
        have HBD := Lib.hid hbd
        clear ht' hcc hfw hkp hcell hdr hbd
        generalize ks[j] = t' at *
        have hLr : L < wr.heap.size := Nat.lt_of_lt_of_le hL HKP.out.size
        have hpc : ∀ A, Calls Try.prog 18 #[.agg #[.int .u64 (t'.num : Int), .bool t'.blank, .slice ad' t'.data.length cd', .slice ak' t'.kids.length ck'], .func (.func 19) #[] #[P]] (wr.alloc A) (EachPost g t' l L (wr.alloc A)) := fun A =>
          IH.out t' _ _ B l (wr.alloc A) hjs hl0' (by omega) hB ((HKW.out.trans HKP.out).alloc A) (HT'.out.mono (fun _ h => h) (fun b hb => (heap_old A (by have := HKP.out.size; have : b < B := hb; omega)).trans (HKP.out.block b (by have : b < B := hb; omega) (by have : b < B := hb; omega)))) ((heap_old A hLr).trans hcl)
        have HPC := Lib.hid hpc
        have HL1 := Lib.hid hl1'
        clear hpc hl1'
        obtain ⟨bk, hbk⟩ : ∃ bk, (t'.each g l).1 = bk := ⟨_, rfl⟩
        have HBK := Lib.hid hbk
        clear hbk
        go_wp2_with fail
        refine (HPC.out _).mono ?_
        rintro e w3 ⟨rfl, hc3, hk3⟩
        rw [HBK.out]
        rcases bk with _ | _
        · have HH := Lib.hid (And.intro hc3 hk3)
          clear hc3 hk3
          go_wp2_with fail
          go_ret
          have hff : Tr.each g ⟨n, b, d, ks⟩ m = (false, (t'.each g l).2) := by rw [HF.out, ← HFW.out, if_neg (by rw [HBK.out]; simp)]
          exact ⟨ret_b (by rw [hff]), by rw [hff]; exact HH.out.1, (HKP.out.alloc _).trans HH.out.2⟩
        · have hN : EachInv g ks (m + 1) L w (.int .i64 ((j : Int) + 1)) w3 := by
            refine ⟨j + 1, _, by omega, rfl, hc3, by have := HBD.out; omega, by have := HBD.out; have := HL1.out; omega, ?_, (HKP.out.alloc _).trans hk3⟩
            rw [← HFW.out, if_pos HBK.out]
          have HN := Lib.hid hN
          clear hN hc3 hk3
          go_wp2_with fail
          exact ⟨HN.out, by simp [intOf]; omega⟩
      · have hjl : ks.drop j = [] := List.drop_eq_nil_of_le (by omega)
        rw [hjl, Tr.eachs] at hfw
        have HFW := Lib.hid hfw
        have HKP := Lib.hid (And.intro hcl hkp)
        clear hfw hjl hkp
        go_wp2_with fail
        go_ret
        exact ⟨ret_b (by rw [HF.out, ← HFW.out]), by rw [HF.out, ← HFW.out]; exact HKP.out.1, HKP.out.2⟩
theorem each_said1 (P : Value) (g : Int → Bool) (L : Nat) (w0 : World) (hY : Yields1 P g L w0) : ∀ k, EachSaid1 P g L w0 k
  | 0 => fun t _ _ _ _ _ h => by have := t.size_pos; omega
  | k + 1 => each_step1 P g L w0 hY k (each_said1 P g L w0 hY k)
end Go.Proofs.Ytdogiobppeemiaa
