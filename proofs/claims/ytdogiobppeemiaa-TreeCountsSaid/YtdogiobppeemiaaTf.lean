/- tree.Put: a way that leads on, by a slice without room behind its head. -/
import Derived.Test.YtdogiobppeemiaaTe
namespace Go.Proofs.Ytdogiobppeemiaa
set_option linter.unusedSimpArgs false
set_option linter.unusedVariables false
set_option linter.unnecessarySimpa false
open Go.RowKit
attribute [local go_sem ↓] Go.wp_at_zero Go.wp_at_succ

set_option maxHeartbeats 6400000 in
theorem put_inA (m : Nat) (ih : PutSaid m) (t p : Tr) (dv kv dp kp : Value) (a : Option Addr) (len cap : Nat) (n : Nat) (r : List Int) (w : World) (hm : ((n : Int) :: r).length ≤ m + 1) (ht' : t.small) (hp' : p.small) (hts : t.size ≤ 1000000) (hps : p.size ≤ 1000000)
    (ht : TrAt (· < w.heap.size) w t dv kv) (hp : TrAt (· < w.heap.size) w p dp kp) (hlen : ((n : Int) :: r).length = len) (hl1 : len ≤ cap) (hl2 : cap ≤ maxLen) (hE : Elems .i64 w a ((n : Int) :: r)) (hwf : ∀ n' ∈ ((n : Int) :: r), (Lit.int .i64 n').wf = true) (hn : n < t.kids.length) (hcap : cap = 1) :
    Calls Try.prog 16 #[.agg #[.int .u64 (t.num : Int), .bool t.blank, dv, kv], .agg #[.int .u64 (p.num : Int), .bool p.blank, dp, kp], .slice a len cap] w (PutPost t p ((n : Int) :: r) w) := by
  subst hlen
  subst hcap
  obtain rfl : r = [] := by simp only [List.length_cons] at hl1; rw [← List.length_eq_zero_iff]; omega
  obtain ⟨ad, cd, ak, ck, rfl, rfl, _, hcd, hck1, hck2⟩ := ht.form
  obtain ⟨pd, pcd, pk, pck, rfl, rfl, _, _, _, _⟩ := hp.form
  obtain ⟨b1, b2, b3, b4, b5⟩ := put_blocks w (.cells #[.int .u64 (t.num : Int), .bool t.blank, .slice ad t.data.length cd, .slice ak t.kids.length ck] 26) (.cells #[.int .u64 (p.num : Int), .bool p.blank, .slice pd p.data.length pcd, .slice pk p.kids.length pck] 26) (.cells #[.int .u64 0, .bool false, .slice none 0 0, .slice none 0 0] 26)
  have hml : ((n : Int) :: []).length ≤ 9223372036854775807 := by unfold maxLen at hl2; omega
  have hkl : t.kids.length ≤ 9223372036854775807 := by unfold maxLen at hck2; omega
  obtain ⟨g, off, rfl, hg, hcx, hEr⟩ := hE.tail
  have hwx := bounds_i64 (hwf (n : Int) (by simp))
  have hwr : ∀ n' ∈ ([] : List Int), (Lit.int .i64 n').wf = true := fun _ h => by simp at h
  have hw0 : ∀ w', Below (((w.alloc (.cells #[.int .u64 (t.num : Int), .bool t.blank, .slice ad t.data.length cd, .slice ak t.kids.length ck] 26)).alloc (.cells #[.int .u64 (p.num : Int), .bool p.blank, .slice pd p.data.length pcd, .slice pk p.kids.length pck] 26)).alloc (.cells #[.int .u64 0, .bool false, .slice none 0 0, .slice none 0 0] 26)).heap.size (((w.alloc (.cells #[.int .u64 (t.num : Int), .bool t.blank, .slice ad t.data.length cd, .slice ak t.kids.length ck] 26)).alloc (.cells #[.int .u64 (p.num : Int), .bool p.blank, .slice pd p.data.length pcd, .slice pk p.kids.length pck] 26)).alloc (.cells #[.int .u64 0, .bool false, .slice none 0 0, .slice none 0 0] 26)) w' →
      w'.heap[w.heap.size]? = some (.cells #[.int .u64 (t.num : Int), .bool t.blank, .slice ad t.data.length cd, .slice ak t.kids.length ck] 26) ∧ w'.heap[w.heap.size + 1]? = some (.cells #[.int .u64 (p.num : Int), .bool p.blank, .slice pd p.data.length pcd, .slice pk p.kids.length pck] 26) ∧ w'.heap[w.heap.size + 2]? = some (.cells #[.int .u64 0, .bool false, .slice none 0 0, .slice none 0 0] 26) :=
    fun w' h => ⟨(h.block _ (by omega)).trans b3, (h.block _ (by omega)).trans b4, (h.block _ (by omega)).trans b5⟩
  have hcW : (((w.alloc (.cells #[.int .u64 (t.num : Int), .bool t.blank, .slice ad t.data.length cd, .slice ak t.kids.length ck] 26)).alloc (.cells #[.int .u64 (p.num : Int), .bool p.blank, .slice pd p.data.length pcd, .slice pk p.kids.length pck] 26)).alloc (.cells #[.int .u64 0, .bool false, .slice none 0 0, .slice none 0 0] 26)).cell? ⟨g, off, none⟩ = some (.int .i64 (n : Int)) := (b1.cell (p := ⟨g, off, none⟩) hg).trans hcx
  have HW0 := Lib.hid hw0
  have HB := Lib.hid (And.intro b1 b2)
  clear hw0 b1 b2 b3 b4 b5
  have hx0 : (0 : Int) ≤ (n : Int) := by omega
  have hx1 : (n : Int) < (t.kids.length : Int) := by omega
  obtain ⟨ak', ck', e, _, _, _, hks⟩ := kids_form ht.kids
  simp only [Value.slice.injEq] at e
  obtain ⟨rfl, _, rfl⟩ := e
  obtain ⟨gk, offk, rfl, hgk, hck⟩ := hks.resolve_left (by intro h; rw [h] at hn; simp at hn)
  obtain ⟨dn, kn, c0, c1, c2, c3, htn⟩ := hck n hn
  obtain ⟨hsd, hsk, hss⟩ : t.data.length ≤ 1000000 ∧ t.kids.length ≤ 1000000 ∧ Tr.smalls t.kids := by
    obtain ⟨q1, q2, q3, q4⟩ := t; rw [Tr.small] at ht'; exact ht'
  have hsz : t.kids[n].size ≤ 1000000 := by
    have h1 := Tr.sizes_at n hn
    obtain ⟨q1, q2, q3, q4⟩ := t
    rw [Tr.size] at hts
    simp only at h1 ⊢
    omega
  have hsn := Tr.smalls_at hss n hn
  have hcl := fun W (hW : Below w.heap.size w W) => clone_said _ t _ _ W (Nat.le_refl _) ht' (ht.up hW)
  obtain ⟨dnd, dnc, knd, knc, rfl, rfl, _, _, _, _⟩ := htn.form
  have hpi := Tr.put_in (p := p) (r := []) hn
  have hcW4 := fun i v (h : w.cell? ⟨gk, i, none⟩ = some v) => (HB.out.1.cell (p := ⟨gk, i, none⟩) hgk).trans h
  have c0' := hcW4 _ _ c0
  have c1' := hcW4 _ _ c1
  have c2' := hcW4 _ _ c2
  have c3' := hcW4 _ _ c3
  have hgk' : gk < w.heap.size + 1 + 1 + 1 := by omega
  simp only [List.length_cons] at hml hl1 hm
  have hput := put_two ih t.kids[n] p _ _ _ _ (some ⟨g, off, none⟩) 0 0 [] w (by omega) hsn hp' hsz hps htn hp rfl (by omega) (by omega) (.inl rfl) hwr
  have HCL := Lib.hid hcl
  have HPI := Lib.hid hpi
  have HP2 := Lib.hid hput
  have HTN := Lib.hid htn
  have HTT := Lib.hid ht
  have hckl : (0 : Int) ≤ (n : Int) := by omega
  clear c0 c1 c2 c3 hcW4 hcl hpi hput htn ht hks hck hE hEr hwf hwr ih hp ht' hp' hss hsn hts hps hsz hm
  rcases HP2.out with ⟨hu, hput⟩ | ⟨u, hu, hput⟩
  · have HPut := Lib.hid hput
    have HU : Hid (t.put p ((n : Int) :: []) = none) := by rw [HPI.out, hu]; rfl
    clear hput hu
    generalize t.kids[n] = tn at *
    have hS : ∀ w', Below (((w.alloc (.cells #[.int .u64 (t.num : Int), .bool t.blank, .slice ad t.data.length cd, .slice (some ⟨gk, offk, none⟩) t.kids.length ck] 26)).alloc (.cells #[.int .u64 (p.num : Int), .bool p.blank, .slice pd p.data.length pcd, .slice pk p.kids.length pck] 26)).alloc (.cells #[.int .u64 0, .bool false, .slice none 0 0, .slice none 0 0] 26)).heap.size (((w.alloc (.cells #[.int .u64 (t.num : Int), .bool t.blank, .slice ad t.data.length cd, .slice (some ⟨gk, offk, none⟩) t.kids.length ck] 26)).alloc (.cells #[.int .u64 (p.num : Int), .bool p.blank, .slice pd p.data.length pcd, .slice pk p.kids.length pck] 26)).alloc (.cells #[.int .u64 0, .bool false, .slice none 0 0, .slice none 0 0] 26)) w' → w'.cell? ⟨w.heap.size, 3, none⟩ = some (.slice (some ⟨gk, offk, none⟩) t.kids.length ck) ∧ w'.cell? ⟨gk, offk + n * 4, none⟩ = some (.int .u64 (tn.num : Int)) ∧ w'.cell? ⟨gk, offk + n * 4 + 1, none⟩ = some (.bool tn.blank) ∧ w'.cell? ⟨gk, offk + n * 4 + 2, none⟩ = some (.slice dnd tn.data.length dnc) ∧ w'.cell? ⟨gk, offk + n * 4 + 3, none⟩ = some (.slice knd tn.kids.length knc) ∧ w'.cell? ⟨w.heap.size + 1, 0, none⟩ = some (.int .u64 (p.num : Int)) ∧ w'.cell? ⟨w.heap.size + 1, 1, none⟩ = some (.bool p.blank) ∧ w'.cell? ⟨w.heap.size + 1, 2, none⟩ = some (.slice pd p.data.length pcd) ∧ w'.cell? ⟨w.heap.size + 1, 3, none⟩ = some (.slice pk p.kids.length pck) :=
      fun w' h => ⟨cell_of_heap (HW0.out w' h).1, (h.cell (p := ⟨gk, _, none⟩) (by rw [HB.out.2]; omega)).trans c0', (h.cell (p := ⟨gk, _, none⟩) (by rw [HB.out.2]; omega)).trans c1', (h.cell (p := ⟨gk, _, none⟩) (by rw [HB.out.2]; omega)).trans c2', (h.cell (p := ⟨gk, _, none⟩) (by rw [HB.out.2]; omega)).trans c3',
        cell_of_heap (HW0.out w' h).2.1, cell_of_heap (HW0.out w' h).2.1, cell_of_heap (HW0.out w' h).2.1, cell_of_heap (HW0.out w' h).2.1⟩
    have HS := Lib.hid hS
    clear hS
    go_enter Try.func16, Try.ntmps16
    go_upto_region 6 with fail
    go_cut [9, 10] (fun s9 s10 wx => ∃ K, s9 = .pointer (some ⟨K, 0, none⟩) ∧ s10 = .bool false ∧ Below (((w.alloc (.cells #[.int .u64 (t.num : Int), .bool t.blank, .slice ad t.data.length cd, .slice (some ⟨gk, offk, none⟩) t.kids.length ck] 26)).alloc (.cells #[.int .u64 (p.num : Int), .bool p.blank, .slice pd p.data.length pcd, .slice pk p.kids.length pck] 26)).alloc (.cells #[.int .u64 0, .bool false, .slice none 0 0, .slice none 0 0] 26)).heap.size (((w.alloc (.cells #[.int .u64 (t.num : Int), .bool t.blank, .slice ad t.data.length cd, .slice (some ⟨gk, offk, none⟩) t.kids.length ck] 26)).alloc (.cells #[.int .u64 (p.num : Int), .bool p.blank, .slice pd p.data.length pcd, .slice pk p.kids.length pck] 26)).alloc (.cells #[.int .u64 0, .bool false, .slice none 0 0, .slice none 0 0] 26)) wx)
    case first =>
      go_region_held3 (fun w' => w'.cell? ⟨w.heap.size, 3, none⟩ = some (.slice (some ⟨gk, offk, none⟩) t.kids.length ck) ∧ w'.cell? ⟨gk, offk + n * 4, none⟩ = some (.int .u64 (tn.num : Int)) ∧ w'.cell? ⟨gk, offk + n * 4 + 1, none⟩ = some (.bool tn.blank) ∧ w'.cell? ⟨gk, offk + n * 4 + 2, none⟩ = some (.slice dnd tn.data.length dnc) ∧ w'.cell? ⟨gk, offk + n * 4 + 3, none⟩ = some (.slice knd tn.kids.length knc) ∧ w'.cell? ⟨w.heap.size + 1, 0, none⟩ = some (.int .u64 (p.num : Int)) ∧ w'.cell? ⟨w.heap.size + 1, 1, none⟩ = some (.bool p.blank) ∧ w'.cell? ⟨w.heap.size + 1, 2, none⟩ = some (.slice pd p.data.length pcd) ∧ w'.cell? ⟨w.heap.size + 1, 3, none⟩ = some (.slice pk p.kids.length pck))
        ((refine HS.out _ ?_; (repeat (first | exact Below.refl _ _ | exact hb2W | refine Below.drew ?_ | refine below_al ?_ _ | refine below_set ?_ (by have := HB.out.2; omega) _))))
        ((go_at_call 16; refine (HPut.out _ ?_).mono ?_; (focus ((refine below_tr HB.out.1 ?_); (repeat (first | exact Below.refl _ _ | (refine Below.drew ?_) | (refine below_al ?_ _))))); rintro e w2 ⟨rfl, hb2⟩; obtain ⟨hc2, hf2⟩ := bcell hb2; have hz2 : w.heap.size + 2 < w2.heap.size := (by have := hb2.size; simp at this; omega); have hb2W : Below (((w.alloc (.cells #[.int .u64 (t.num : Int), .bool t.blank, .slice ad t.data.length cd, .slice (some ⟨gk, offk, none⟩) t.kids.length ck] 26)).alloc (.cells #[.int .u64 (p.num : Int), .bool p.blank, .slice pd p.data.length pcd, .slice pk p.kids.length pck] 26)).alloc (.cells #[.int .u64 0, .bool false, .slice none 0 0, .slice none 0 0] 26)).heap.size (((w.alloc (.cells #[.int .u64 (t.num : Int), .bool t.blank, .slice ad t.data.length cd, .slice (some ⟨gk, offk, none⟩) t.kids.length ck] 26)).alloc (.cells #[.int .u64 (p.num : Int), .bool p.blank, .slice pd p.data.length pcd, .slice pk p.kids.length pck] 26)).alloc (.cells #[.int .u64 0, .bool false, .slice none 0 0, .slice none 0 0] 26)) w2 := (by refine below_tr ?_ hb2; (repeat (first | exact Below.refl _ _ | (refine Below.drew ?_) | (refine below_al ?_ _))))))
      all_goals go_wp2_with fail
      all_goals go_meet
      · exact ⟨_, rfl, rfl, below_al hb2W _⟩
      · exact ⟨_, rfl, rfl, below_set4 hb2W (by have := HB.out.2; omega) _ _ _ _⟩
    case rest =>
      obtain ⟨K, rfl, rfl, hbx⟩ := hcut
      have hr := (HW0.out _ hbx).2.2
      have hR := fun j => cell_of_heap (j := j) hr
      have hRf := fun j => free_of_heap (j := j) hr
      have R0 := hR 0
      have R1 := hR 1
      have R2 := hR 2
      have R3 := hR 3
      simp only [List.getElem?_toArray, List.getElem?_cons_succ, List.getElem?_cons_zero] at R0 R1 R2 R3
      clear hR
      go_wp2_with fail
      exact bodyPost_ret (v := .tuple #[.agg #[.int .u64 0, .bool false, .slice none 0 0, .slice none 0 0], .bool false]) (by simp [results, Try.results16, go_sem, R0, R1, R2, R3]) rfl ⟨below_set4 (below_tr HB.out.1 hbx) (by omega) _ _ _ _, .inr ⟨HU.out, rfl⟩⟩
  · have HPut := Lib.hid hput
    have HU : Hid (t.put p ((n : Int) :: []) = some (t.setKid n u)) := by rw [HPI.out, hu]; rfl
    clear hput hu
    generalize t.kids[n] = tn at *
    have hS : ∀ w', Below (((w.alloc (.cells #[.int .u64 (t.num : Int), .bool t.blank, .slice ad t.data.length cd, .slice (some ⟨gk, offk, none⟩) t.kids.length ck] 26)).alloc (.cells #[.int .u64 (p.num : Int), .bool p.blank, .slice pd p.data.length pcd, .slice pk p.kids.length pck] 26)).alloc (.cells #[.int .u64 0, .bool false, .slice none 0 0, .slice none 0 0] 26)).heap.size (((w.alloc (.cells #[.int .u64 (t.num : Int), .bool t.blank, .slice ad t.data.length cd, .slice (some ⟨gk, offk, none⟩) t.kids.length ck] 26)).alloc (.cells #[.int .u64 (p.num : Int), .bool p.blank, .slice pd p.data.length pcd, .slice pk p.kids.length pck] 26)).alloc (.cells #[.int .u64 0, .bool false, .slice none 0 0, .slice none 0 0] 26)) w' → w'.cell? ⟨w.heap.size, 3, none⟩ = some (.slice (some ⟨gk, offk, none⟩) t.kids.length ck) ∧ w'.cell? ⟨gk, offk + n * 4, none⟩ = some (.int .u64 (tn.num : Int)) ∧ w'.cell? ⟨gk, offk + n * 4 + 1, none⟩ = some (.bool tn.blank) ∧ w'.cell? ⟨gk, offk + n * 4 + 2, none⟩ = some (.slice dnd tn.data.length dnc) ∧ w'.cell? ⟨gk, offk + n * 4 + 3, none⟩ = some (.slice knd tn.kids.length knc) ∧ w'.cell? ⟨w.heap.size + 1, 0, none⟩ = some (.int .u64 (p.num : Int)) ∧ w'.cell? ⟨w.heap.size + 1, 1, none⟩ = some (.bool p.blank) ∧ w'.cell? ⟨w.heap.size + 1, 2, none⟩ = some (.slice pd p.data.length pcd) ∧ w'.cell? ⟨w.heap.size + 1, 3, none⟩ = some (.slice pk p.kids.length pck) :=
      fun w' h => ⟨cell_of_heap (HW0.out w' h).1, (h.cell (p := ⟨gk, _, none⟩) (by rw [HB.out.2]; omega)).trans c0', (h.cell (p := ⟨gk, _, none⟩) (by rw [HB.out.2]; omega)).trans c1', (h.cell (p := ⟨gk, _, none⟩) (by rw [HB.out.2]; omega)).trans c2', (h.cell (p := ⟨gk, _, none⟩) (by rw [HB.out.2]; omega)).trans c3',
        cell_of_heap (HW0.out w' h).2.1, cell_of_heap (HW0.out w' h).2.1, cell_of_heap (HW0.out w' h).2.1, cell_of_heap (HW0.out w' h).2.1⟩
    have HS := Lib.hid hS
    clear hS
    go_enter Try.func16, Try.ntmps16
    go_upto_region 6 with fail
    go_cut [9, 10] (fun s9 s10 wx => ∃ K ua uc va vc, s9 = .pointer (some ⟨K, 0, none⟩) ∧ s10 = .bool true ∧ Below (((w.alloc (.cells #[.int .u64 (t.num : Int), .bool t.blank, .slice ad t.data.length cd, .slice (some ⟨gk, offk, none⟩) t.kids.length ck] 26)).alloc (.cells #[.int .u64 (p.num : Int), .bool p.blank, .slice pd p.data.length pcd, .slice pk p.kids.length pck] 26)).alloc (.cells #[.int .u64 0, .bool false, .slice none 0 0, .slice none 0 0] 26)).heap.size (((w.alloc (.cells #[.int .u64 (t.num : Int), .bool t.blank, .slice ad t.data.length cd, .slice (some ⟨gk, offk, none⟩) t.kids.length ck] 26)).alloc (.cells #[.int .u64 (p.num : Int), .bool p.blank, .slice pd p.data.length pcd, .slice pk p.kids.length pck] 26)).alloc (.cells #[.int .u64 0, .bool false, .slice none 0 0, .slice none 0 0] 26)) wx ∧ K < wx.heap.size ∧ wx.heap[K]? = some (.cells #[.int .u64 (u.num : Int), .bool u.blank, .slice ua u.data.length uc, .slice va u.kids.length vc] 26 (0, 0)) ∧ TrAt (fun b => w.heap.size + 3 ≤ b ∧ b < wx.heap.size) wx u (.slice ua u.data.length uc) (.slice va u.kids.length vc))
    case first =>
      go_region_held3 (fun w' => w'.cell? ⟨w.heap.size, 3, none⟩ = some (.slice (some ⟨gk, offk, none⟩) t.kids.length ck) ∧ w'.cell? ⟨gk, offk + n * 4, none⟩ = some (.int .u64 (tn.num : Int)) ∧ w'.cell? ⟨gk, offk + n * 4 + 1, none⟩ = some (.bool tn.blank) ∧ w'.cell? ⟨gk, offk + n * 4 + 2, none⟩ = some (.slice dnd tn.data.length dnc) ∧ w'.cell? ⟨gk, offk + n * 4 + 3, none⟩ = some (.slice knd tn.kids.length knc) ∧ w'.cell? ⟨w.heap.size + 1, 0, none⟩ = some (.int .u64 (p.num : Int)) ∧ w'.cell? ⟨w.heap.size + 1, 1, none⟩ = some (.bool p.blank) ∧ w'.cell? ⟨w.heap.size + 1, 2, none⟩ = some (.slice pd p.data.length pcd) ∧ w'.cell? ⟨w.heap.size + 1, 3, none⟩ = some (.slice pk p.kids.length pck))
        ((refine HS.out _ ?_; (repeat (first | exact Below.refl _ _ | exact hb2W | refine Below.drew ?_ | refine below_al ?_ _ | refine below_set ?_ (by have := HB.out.2; omega) _))))
        ((go_at_call 16; refine (HPut.out _ ?_).mono ?_; (focus ((refine below_tr HB.out.1 ?_); (repeat (first | exact Below.refl _ _ | (refine Below.drew ?_) | (refine below_al ?_ _))))); rintro e w2 ⟨ua, uc, va, vc, rfl, hut, hb2⟩; obtain ⟨hc2, hf2⟩ := bcell hb2; have hz2 : w.heap.size + 2 < w2.heap.size := (by have := hb2.size; simp at this; omega); have hb2W : Below (((w.alloc (.cells #[.int .u64 (t.num : Int), .bool t.blank, .slice ad t.data.length cd, .slice (some ⟨gk, offk, none⟩) t.kids.length ck] 26)).alloc (.cells #[.int .u64 (p.num : Int), .bool p.blank, .slice pd p.data.length pcd, .slice pk p.kids.length pck] 26)).alloc (.cells #[.int .u64 0, .bool false, .slice none 0 0, .slice none 0 0] 26)).heap.size (((w.alloc (.cells #[.int .u64 (t.num : Int), .bool t.blank, .slice ad t.data.length cd, .slice (some ⟨gk, offk, none⟩) t.kids.length ck] 26)).alloc (.cells #[.int .u64 (p.num : Int), .bool p.blank, .slice pd p.data.length pcd, .slice pk p.kids.length pck] 26)).alloc (.cells #[.int .u64 0, .bool false, .slice none 0 0, .slice none 0 0] 26)) w2 := (by refine below_tr ?_ hb2; (repeat (first | exact Below.refl _ _ | (refine Below.drew ?_) | (refine below_al ?_ _))))))
      all_goals go_wp2_with fail
      all_goals go_meet
      · have hsz := HB.out.2
        exact ⟨_, ua, uc, va, vc, rfl, rfl, below_al hb2W _, by rw [size_al]; omega, heap_new _ _, hut.mono (fun b hb => ⟨by have : (((w.alloc (.cells #[.int .u64 (t.num : Int), .bool t.blank, .slice ad t.data.length cd, .slice (some ⟨gk, offk, none⟩) t.kids.length ck] 26)).alloc (.cells #[.int .u64 (p.num : Int), .bool p.blank, .slice pd p.data.length pcd, .slice pk p.kids.length pck] 26)).alloc (.cells #[.int .u64 0, .bool false, .slice none 0 0, .slice none 0 0] 26)).heap.size ≤ b := hb.1; omega, by rw [size_al]; have := hb.2; omega⟩) (fun b hb => heap_old _ hb.2)⟩
      · have hsz := HB.out.2
        have hza : ((((w.alloc (.cells #[.int .u64 (t.num : Int), .bool t.blank, .slice ad t.data.length cd, .slice (some ⟨gk, offk, none⟩) t.kids.length ck] 26)).alloc (.cells #[.int .u64 (p.num : Int), .bool p.blank, .slice pd p.data.length pcd, .slice pk p.kids.length pck] 26)).alloc (.cells #[.int .u64 0, .bool false, .slice none 0 0, .slice none 0 0] 26)).alloc (.cells #[.int .u64 0, .bool false, .slice none 0 0, .slice none 0 0] 26)).heap.size = w.heap.size + 1 + 1 + 1 + 1 := by rw [size_al, hsz]
        have hw2 : w.heap.size + 1 + 1 + 1 < w2.heap.size := by have h : ((((w.alloc (.cells #[.int .u64 (t.num : Int), .bool t.blank, .slice ad t.data.length cd, .slice (some ⟨gk, offk, none⟩) t.kids.length ck] 26)).alloc (.cells #[.int .u64 (p.num : Int), .bool p.blank, .slice pd p.data.length pcd, .slice pk p.kids.length pck] 26)).alloc (.cells #[.int .u64 0, .bool false, .slice none 0 0, .slice none 0 0] 26)).alloc (.cells #[.int .u64 0, .bool false, .slice none 0 0, .slice none 0 0] 26)).heap.size ≤ w2.heap.size := hb2.size; omega
        have hnew : w2.heap[w.heap.size + 1 + 1 + 1]? = some (.cells #[.int .u64 0, .bool false, .slice none 0 0, .slice none 0 0] 26) := (hb2.block _ (by show _ < ((((w.alloc (.cells #[.int .u64 (t.num : Int), .bool t.blank, .slice ad t.data.length cd, .slice (some ⟨gk, offk, none⟩) t.kids.length ck] 26)).alloc (.cells #[.int .u64 (p.num : Int), .bool p.blank, .slice pd p.data.length pcd, .slice pk p.kids.length pck] 26)).alloc (.cells #[.int .u64 0, .bool false, .slice none 0 0, .slice none 0 0] 26)).alloc (.cells #[.int .u64 0, .bool false, .slice none 0 0, .slice none 0 0] 26)).heap.size; omega)).trans (by show ((((w.alloc (.cells #[.int .u64 (t.num : Int), .bool t.blank, .slice ad t.data.length cd, .slice (some ⟨gk, offk, none⟩) t.kids.length ck] 26)).alloc (.cells #[.int .u64 (p.num : Int), .bool p.blank, .slice pd p.data.length pcd, .slice pk p.kids.length pck] 26)).alloc (.cells #[.int .u64 0, .bool false, .slice none 0 0, .slice none 0 0] 26)).alloc (.cells #[.int .u64 0, .bool false, .slice none 0 0, .slice none 0 0] 26)).heap[w.heap.size + 1 + 1 + 1]? = _; rw [← hsz]; exact heap_new _ _)
        refine ⟨_, ua, uc, va, vc, rfl, rfl, below_set4 hb2W (by omega) _ _ _ _, by show w.heap.size + 1 + 1 + 1 < (set4 w2 _ _ _ _ _).heap.size; rw [size_set4]; exact hw2, heap_set4 _ _ _ _ hnew, ?_⟩
        exact hut.mono (fun b hb => ⟨by have : ((((w.alloc (.cells #[.int .u64 (t.num : Int), .bool t.blank, .slice ad t.data.length cd, .slice (some ⟨gk, offk, none⟩) t.kids.length ck] 26)).alloc (.cells #[.int .u64 (p.num : Int), .bool p.blank, .slice pd p.data.length pcd, .slice pk p.kids.length pck] 26)).alloc (.cells #[.int .u64 0, .bool false, .slice none 0 0, .slice none 0 0] 26)).alloc (.cells #[.int .u64 0, .bool false, .slice none 0 0, .slice none 0 0] 26)).heap.size ≤ b := hb.1; omega, by show b < (set4 w2 _ _ _ _ _).heap.size; rw [size_set4]; exact hb.2⟩) (fun b hb => heap_set4_ne _ _ _ _ (by have : ((((w.alloc (.cells #[.int .u64 (t.num : Int), .bool t.blank, .slice ad t.data.length cd, .slice (some ⟨gk, offk, none⟩) t.kids.length ck] 26)).alloc (.cells #[.int .u64 (p.num : Int), .bool p.blank, .slice pd p.data.length pcd, .slice pk p.kids.length pck] 26)).alloc (.cells #[.int .u64 0, .bool false, .slice none 0 0, .slice none 0 0] 26)).alloc (.cells #[.int .u64 0, .bool false, .slice none 0 0, .slice none 0 0] 26)).heap.size ≤ b := hb.1; omega))
    case rest =>
      obtain ⟨K, ua, uc, va, vc, rfl, rfl, hbx, hKl, hK, hut⟩ := hcut
      have hb0 := (HW0.out _ hbx).1
      have hBc := fun j => cell_of_heap (j := j) hb0
      have B0 := hBc 0
      have B1 := hBc 1
      have B2 := hBc 2
      have B3 := hBc 3
      simp only [List.getElem?_toArray, List.getElem?_cons_succ, List.getElem?_cons_zero] at B0 B1 B2 B3
      have hwx : Below w.heap.size w wc := below_tr HB.out.1 hbx
      have HWX := Lib.hid hwx
      have HUT := Lib.hid hut
      have hsz := HB.out.2
      have hszx := hbx.size
      clear hBc hb0 hwx hut
      go_upto_region 9 with fail
      go_cut [11] (fun s11 wy => ∃ Q g3 cap3 ad3 cd3 kxs3, s11 = .pointer (some ⟨Q, 0, none⟩) ∧ PutSt w t u K Q wc.heap.size g3 cap3 (.slice ad3 t.data.length cd3) (.slice ua u.data.length uc) (.slice va u.kids.length vc) kxs3 wy)
      case first =>
        go_wp2_with fail
        refine (HCL.out _ HWX.out).mono ?_
        rintro e w3 ⟨dv3, kv3, kxs3, rfl, hown3, hb3⟩
        obtain ⟨g3, cap3, rfl, hg3a, hg3b, hgc1, hgc2, hfr, hrow⟩ := hown3.row (by omega)
        obtain ⟨ad3, cd3, rfl⟩ := owned_form hown3.data
        have hs3 := hb3.size
        have hst : ∀ A, A = Obj.cells #[.int .u64 (t.num : Int), .bool t.blank, .slice ad3 t.data.length cd3, .slice (some ⟨g3, 0, none⟩) t.kids.length cap3] 26 → PutSt w t u K w3.heap.size wc.heap.size g3 cap3 (.slice ad3 t.data.length cd3) (.slice ua u.data.length uc) (.slice va u.kids.length vc) kxs3 (w3.alloc A) := by
          intro A hA
          subst hA
          refine ⟨below_al (below_tr HWX.out hb3) _, ⟨owned_kept hown3.data (Nat.le_refl _) (fun g hg => heap_old _ (owned_lt hown3.data g hg).2), owned_kept hown3.kids (Nat.le_refl _) (fun g hg => heap_old _ (owned_lt hown3.kids g hg).2), hown3.apart, C.reps_mono (fun b hb => ⟨hb.1, by rw [size_al]; have := hb.2.1; omega, hb.2.2⟩) (fun b hb => heap_old _ hb.2.1) _ _ hown3.parts⟩,
            HUT.out.mono (fun b hb => hb) (fun b hb => (heap_old _ (by have := hb.2; omega)).trans (hb3.block _ hb.2)), (heap_old _ (by omega)).trans ((hb3.block _ hKl).trans hK), heap_new _ _, (heap_old _ (by omega)).trans ((hb3.block _ (by omega)).trans (HW0.out _ hbx).2.2), by omega, by omega,
            fun e => by have := owned_lt hown3.data _ e; omega, hg3a⟩
        have HST := Lib.hid hst
        clear hst hrow hfr hown3 hcx hcW c0' c1' c2' c3' B0 B1 B2 B3 hK
        go_wp2_with fail
        go_meet
        exact ⟨_, _, _, _, _, _, rfl, HST.out _ rfl⟩
      case rest =>
        rename_i wcc
        obtain ⟨Q, g3, cap3, ad3, cd3, kxs3, rfl, hst⟩ := hcut
        clear hcx hcW c0' c1' c2' c3' B0 B1 B2 B3 hK
        have hsw := hst.hB
        obtain ⟨_, _, e, _, _, _, _, hfr, hrow⟩ := hst.own.row (by omega)
        simp only [Value.slice.injEq, Option.some.injEq, Addr.mk.injEq, and_true, true_and] at e
        obtain ⟨rfl, rfl⟩ := e
        have hKc := fun j => cell_of_heap (j := j) hst.hK
        have hQc := fun j => cell_of_heap (j := j) hst.hQ
        have K0 := hKc 0
        have K1 := hKc 1
        have K2 := hKc 2
        have K3 := hKc 3
        have Q3 := hQc 3
        simp only [List.getElem?_toArray, List.getElem?_cons_succ, List.getElem?_cons_zero] at K0 K1 K2 K3 Q3
        obtain ⟨x0, X0, _⟩ := hrow (n * 4) (by omega)
        obtain ⟨x1, X1, _⟩ := hrow (n * 4 + 1) (by omega)
        obtain ⟨x2, X2, _⟩ := hrow (n * 4 + 2) (by omega)
        obtain ⟨x3, X3, _⟩ := hrow (n * 4 + 3) (by omega)
        have HST := Lib.hid hst
        clear hst hrow hKc hQc
        go_upto_region 10 with fail
        go_cut [] (fun wy => PutEnd w t u n Q g3 cap3 (.slice ad3 t.data.length cd3) wy)
        case first =>
          go_wp2_with fail
          go_meet
          exact HST.out.store hn
        case rest =>
          rename_i wcd
          have hQc := fun j => cell_of_heap (j := j) hcut.hQ
          have hRc := fun j => cell_of_heap (j := j) hcut.hR
          have hRf := fun j => free_of_heap (j := j) hcut.hR
          have Q0 := hQc 0
          have Q1 := hQc 1
          have Q2 := hQc 2
          have Q3 := hQc 3
          have R0 := hRc 0
          have R1 := hRc 1
          have R2 := hRc 2
          have R3 := hRc 3
          simp only [List.getElem?_toArray, List.getElem?_cons_succ, List.getElem?_cons_zero] at Q0 Q1 Q2 Q3 R0 R1 R2 R3
          have HE := Lib.hid hcut
          clear hcut hQc hRc K0 K1 K2 K3 X0 X1 X2 X3
          go_wp2_with fail
          obtain ⟨f1, f2⟩ := HE.out.last (.int .u64 (t.num : Int)) (.bool t.blank) (.slice ad3 t.data.length cd3) (.slice (some ⟨g3, 0, none⟩) t.kids.length cap3)
          have hkn : (t.setKid n u).kids.length = t.kids.length := by simp [Tr.setKid]
          exact bodyPost_ret (v := .tuple #[.agg #[.int .u64 (t.num : Int), .bool t.blank, .slice ad3 t.data.length cd3, .slice (some ⟨g3, 0, none⟩) t.kids.length cap3], .bool true]) (by simp [results, Try.results16, go_sem, R0, R1, R2, R3]) rfl
            ⟨f1, .inl ⟨t.setKid n u, _, _, HU.out, f2, rfl⟩⟩

end Go.Proofs.Ytdogiobppeemiaa
