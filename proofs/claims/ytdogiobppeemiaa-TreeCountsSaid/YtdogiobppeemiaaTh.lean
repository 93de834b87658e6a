/- tree.Put: the whole. -/
import Derived.Test.YtdogiobppeemiaaTf
import Derived.Test.YtdogiobppeemiaaTg
namespace Go.Proofs.Ytdogiobppeemiaa
set_option linter.unusedSimpArgs false
set_option linter.unusedVariables false
set_option linter.unnecessarySimpa false
open Go.RowKit
attribute [local go_sem ↓] Go.wp_at_zero Go.wp_at_succ

set_option maxHeartbeats 3200000 in
theorem put_nil (t p : Tr) (dv kv dp kp : Value) (a : Option Addr) (len cap : Nat) (w : World) (hp' : p.small)
    (ht : TrAt (· < w.heap.size) w t dv kv) (hp : TrAt (· < w.heap.size) w p dp kp) (hlen : ([] : List Int).length = len) :
    Calls Try.prog 16 #[.agg #[.int .u64 (t.num : Int), .bool t.blank, dv, kv], .agg #[.int .u64 (p.num : Int), .bool p.blank, dp, kp], .slice a len cap] w (PutPost t p [] w) := by
  subst hlen
  obtain ⟨ad, cd, ak, ck, rfl, rfl, _, hcd, hck1, hck2⟩ := ht.form
  obtain ⟨pd, pcd, pk, pck, rfl, rfl, _, _, _, _⟩ := hp.form
  obtain ⟨b1, b2, b3, b4, b5⟩ := put_blocks w (.cells #[.int .u64 (t.num : Int), .bool t.blank, .slice ad t.data.length cd, .slice ak t.kids.length ck] 26) (.cells #[.int .u64 (p.num : Int), .bool p.blank, .slice pd p.data.length pcd, .slice pk p.kids.length pck] 26) (.cells #[.int .u64 0, .bool false, .slice none 0 0, .slice none 0 0] 26)
  have hcl := fun W (hW : Below w.heap.size w W) => clone_said _ p _ _ W (Nat.le_refl _) hp' (hp.up hW)
  have HC := Lib.hid hcl
  have HB := Lib.hid (And.intro b1 (And.intro b2 b5))
  have HPut : Hid (t.put p [] = some p) := by unfold Hid; rw [Tr.put]
  clear hcl b1 b2 b3 b4 b5 ht hp
  go_enter Try.func16, Try.ntmps16
  go_wp2_with fail
  refine (HC.out _ HB.out.1).mono ?_
  rintro e w2 ⟨dv2, kv2, kxs2, rfl, hown2, hb2⟩
  obtain ⟨ad2, cd2, rfl⟩ := owned_form hown2.data
  obtain ⟨ak2, ck2, rfl⟩ := owned_form hown2.kids
  have hr2 : w2.heap[w.heap.size + 2]? = some (.cells #[.int .u64 0, .bool false, .slice none 0 0, .slice none 0 0] 26 (0, 0)) := (hb2.block _ (by have := HB.out.2.1; omega)).trans HB.out.2.2
  have hR := fun j => cell_of_heap (j := j) hr2
  have hRf := fun j => free_of_heap (j := j) hr2
  have R0 := hR 0
  have R1 := hR 1
  have R2 := hR 2
  have R3 := hR 3
  simp only [List.getElem?_toArray, List.getElem?_cons_succ, List.getElem?_cons_zero] at R0 R1 R2 R3
  have hlt : w.heap.size + 1 + 1 < (((w.alloc (.cells #[.int .u64 (t.num : Int), .bool t.blank, .slice ad t.data.length cd, .slice ak t.kids.length ck] 26)).alloc (.cells #[.int .u64 (p.num : Int), .bool p.blank, .slice pd p.data.length pcd, .slice pk p.kids.length pck] 26)).alloc (.cells #[.int .u64 0, .bool false, .slice none 0 0, .slice none 0 0] 26)).heap.size := by have := HB.out.2.1; omega
  have HL := Lib.hid hlt
  clear hlt
  go_wp2_with fail
  exact bodyPost_ret (v := .tuple #[.agg #[.int .u64 (p.num : Int), .bool p.blank, .slice ad2 p.data.length cd2, .slice ak2 p.kids.length ck2], .bool true]) (by simp [results, Try.results16, go_sem, R0, R1, R2, R3]) rfl
    ⟨below_set4 (below_tr HB.out.1 hb2) (by omega) _ _ _ _, .inl ⟨p, _, _, HPut.out, (hown2.after HL.out _ _ _ _).mono (fun b hb => ⟨Nat.le_trans HB.out.1.size hb.1, hb.2⟩) (fun _ _ => rfl), rfl⟩⟩

set_option maxHeartbeats 3200000 in
theorem put_step (m : Nat) (ih : PutSaid m) : PutSaid (m + 1) := by
  intro t p dv kv dp kp a len cap way w hm ht' hp' hts hps ht hp hlen hl1 hl2 hE hwf
  cases way with
  | nil => exact put_nil t p dv kv dp kp a len cap w hp' ht hp hlen
  | cons x r =>
    subst hlen
    obtain ⟨ad, cd, ak, ck, rfl, rfl, _, hcd, hck1, hck2⟩ := ht.form
    obtain ⟨pd, pcd, pk, pck, rfl, rfl, _, _, _, _⟩ := hp.form
    obtain ⟨b1, b2, b3, b4, b5⟩ := put_blocks w (.cells #[.int .u64 (t.num : Int), .bool t.blank, .slice ad t.data.length cd, .slice ak t.kids.length ck] 26) (.cells #[.int .u64 (p.num : Int), .bool p.blank, .slice pd p.data.length pcd, .slice pk p.kids.length pck] 26) (.cells #[.int .u64 0, .bool false, .slice none 0 0, .slice none 0 0] 26)
    have hml : (x :: r).length ≤ 9223372036854775807 := by unfold maxLen at hl2; omega
    have hkl : t.kids.length ≤ 9223372036854775807 := by unfold maxLen at hck2; omega
    obtain ⟨g, off, rfl, hg, hcx, hEr⟩ := hE.tail
    have hwx := bounds_i64 (hwf x (by simp))
    have hwr : ∀ n ∈ r, (Lit.int .i64 n).wf = true := fun n hn => hwf n (by simp [hn])
    have hw0 : ∀ w', Below (((w.alloc (.cells #[.int .u64 (t.num : Int), .bool t.blank, .slice ad t.data.length cd, .slice ak t.kids.length ck] 26)).alloc (.cells #[.int .u64 (p.num : Int), .bool p.blank, .slice pd p.data.length pcd, .slice pk p.kids.length pck] 26)).alloc (.cells #[.int .u64 0, .bool false, .slice none 0 0, .slice none 0 0] 26)).heap.size (((w.alloc (.cells #[.int .u64 (t.num : Int), .bool t.blank, .slice ad t.data.length cd, .slice ak t.kids.length ck] 26)).alloc (.cells #[.int .u64 (p.num : Int), .bool p.blank, .slice pd p.data.length pcd, .slice pk p.kids.length pck] 26)).alloc (.cells #[.int .u64 0, .bool false, .slice none 0 0, .slice none 0 0] 26)) w' →
        w'.heap[w.heap.size]? = some (.cells #[.int .u64 (t.num : Int), .bool t.blank, .slice ad t.data.length cd, .slice ak t.kids.length ck] 26) ∧ w'.heap[w.heap.size + 1]? = some (.cells #[.int .u64 (p.num : Int), .bool p.blank, .slice pd p.data.length pcd, .slice pk p.kids.length pck] 26) ∧ w'.heap[w.heap.size + 2]? = some (.cells #[.int .u64 0, .bool false, .slice none 0 0, .slice none 0 0] 26) :=
      fun w' h => ⟨(h.block _ (by omega)).trans b3, (h.block _ (by omega)).trans b4, (h.block _ (by omega)).trans b5⟩
    have hcW : (((w.alloc (.cells #[.int .u64 (t.num : Int), .bool t.blank, .slice ad t.data.length cd, .slice ak t.kids.length ck] 26)).alloc (.cells #[.int .u64 (p.num : Int), .bool p.blank, .slice pd p.data.length pcd, .slice pk p.kids.length pck] 26)).alloc (.cells #[.int .u64 0, .bool false, .slice none 0 0, .slice none 0 0] 26)).cell? ⟨g, off, none⟩ = some (.int .i64 x) := (b1.cell (p := ⟨g, off, none⟩) hg).trans hcx
    have HW0 := Lib.hid hw0
    have HB := Lib.hid (And.intro b1 b2)
    clear hw0 b1 b2 b3 b4 b5
    by_cases hx : 0 ≤ x ∧ x < (t.kids.length : Int)
    · obtain ⟨hx0, hx1⟩ := hx
      obtain ⟨n, rfl⟩ := Int.eq_ofNat_of_zero_le hx0
      by_cases hcap : cap = 1
      · exact put_inA m ih t p _ _ _ _ _ _ cap n r w hm ht' hp' hts hps ht hp rfl hl1 hl2 hE hwf (by omega) hcap
      · exact put_inB m ih t p _ _ _ _ _ _ cap n r w hm ht' hp' hts hps ht hp rfl hl1 hl2 hE hwf (by omega) hcap
    · have HPut : Hid (t.put p (x :: r) = none) := Tr.put_out hx
      have hxx : x < 0 ∨ (t.kids.length : Int) ≤ x := by omega
      have hle : 0 < r.length + 1 := by omega
      simp only [List.length_cons] at hml hl1
      clear hx ht hp ih hE hEr hwf hwr
      rcases hxx with hxx | hxx
      all_goals
        go_enter Try.func16, Try.ntmps16
        go_wp2_with fail
        refine bodyPost_ret (v := .tuple #[.agg #[.int .u64 0, .bool false, .slice none 0 0, .slice none 0 0], .bool false]) (by simp [results, Try.results16, go_sem]) rfl ⟨?_, .inr ⟨HPut.out, rfl⟩⟩
        repeat (first | exact Below.refl _ _ | refine below_al ?_ _)
theorem put_said : ∀ m, PutSaid m
  | 0 => fun t p dv kv dp kp a len cap way w h1 _ h3 _ _ h6 h7 h8 _ _ _ _ => by
    cases way with
    | nil => exact put_nil t p dv kv dp kp a len cap w h3 h6 h7 h8
    | cons x r => simp at h1
  | m + 1 => put_step m (put_said m)
end Go.Proofs.Ytdogiobppeemiaa
