/- tree.At: the walk. -/
import Derived.Test.YtdogiobppeemiaaTc
import Derived.Test.YtdogiobppeemiaaRow
namespace Go.Proofs.Ytdogiobppeemiaa
set_option linter.unusedSimpArgs false
set_option linter.unusedVariables false
set_option linter.unnecessarySimpa false
open Go.RowKit

/-- The part on a way. -/
def Tr.at_ : Tr → List Int → Option Tr
  | t, [] => some t
  | t, i :: r => if h : 0 ≤ i ∧ i < (t.kids.length : Int) then Tr.at_ (t.kids[i.toNat]'(by omega)) r else none
theorem Tr.at_in {t : Tr} {n : Nat} {r : List Int} (h : n < t.kids.length) : t.at_ ((n : Int) :: r) = (t.kids[n]).at_ r := by
  rw [Tr.at_, dif_pos (by omega)]; rfl
theorem Tr.at_out {t : Tr} {i : Int} {r : List Int} (h : ¬ (0 ≤ i ∧ i < (t.kids.length : Int))) : t.at_ (i :: r) = none := by
  rw [Tr.at_, dif_neg h]

def zeroT : Value := .agg #[.int .u64 0, .bool false, .slice none 0 0, .slice none 0 0]
/-- tree.At's post: the part, and that it is there; or an empty tree. -/
def AtPost (t : Tr) (way : List Int) (w : World) (e : Ending) (w' : World) : Prop :=
  Below w.heap.size w w' ∧
  ((∃ u dv kv, t.at_ way = some u ∧ TrAt (· < w.heap.size) w u dv kv ∧ e = .returned (.tuple #[.agg #[.int .u64 (u.num : Int), .bool u.blank, dv, kv], .bool true])) ∨
   (t.at_ way = none ∧ e = .returned (.tuple #[.agg #[.int .u64 0, .bool false, .slice none 0 0, .slice none 0 0], .bool false])))

def AtInv (t : Tr) (way : List Int) (w : World) (i : Value) (wr : World) : Prop :=
  ∃ (j : Nat) (u : Tr) (dv kv : Value), j ≤ way.length ∧ i = .int .i64 (j : Int) ∧ wr.heap[w.heap.size]? = some (.cells #[.int .u64 (u.num : Int), .bool u.blank, dv, kv] 26 (0, 0)) ∧
    wr.heap[w.heap.size + 1]? = some (.cells #[.int .u64 0, .bool false, .slice none 0 0, .slice none 0 0] 26 (0, 0)) ∧ TrAt (· < w.heap.size) w u dv kv ∧ u.at_ (way.drop j) = t.at_ way ∧ Below w.heap.size w wr

theorem AtInv.next {t : Tr} {way : List Int} {w wr : World} {j : Nat} {u : Tr} {dv kv : Value} (hj : j < way.length) (h0 : ∃ c0 c1 c2 c3, wr.heap[w.heap.size]? = some (.cells #[c0, c1, c2, c3] 26 (0, 0)))
    (h1 : wr.heap[w.heap.size + 1]? = some (.cells #[.int .u64 0, .bool false, .slice none 0 0, .slice none 0 0] 26 (0, 0))) (ht : TrAt (· < w.heap.size) w u dv kv) (ha : u.at_ (way.drop (j + 1)) = t.at_ way) (hb : Below w.heap.size w wr) :
    AtInv t way w (.int .i64 ((j : Int) + 1)) (set4 wr w.heap.size (.int .u64 (u.num : Int)) (.bool u.blank) dv kv) := by
  obtain ⟨c0, c1, c2, c3, h0⟩ := h0
  exact ⟨j + 1, u, dv, kv, by omega, rfl, heap_set4 _ _ _ _ h0, (heap_set4_ne _ _ _ _ (by omega)).trans h1, ht, ha, below_set4 hb (Nat.le_refl _) _ _ _ _⟩

set_option maxHeartbeats 1600000 in
theorem at_any (t : Tr) (dv kv : Value) (a : Option Addr) (len cap : Nat) (way : List Int) (w : World) (ht : TrAt (· < w.heap.size) w t dv kv) (hlen : way.length = len) (hm : len ≤ maxLen) (hE : Elems .i64 w a way) (hwf : ∀ n ∈ way, (Lit.int .i64 n).wf = true) :
    Calls Try.prog 15 #[.agg #[.int .u64 (t.num : Int), .bool t.blank, dv, kv], .slice a len cap] w (AtPost t way w) := by
  subst hlen
  unfold maxLen at hm
  have HT := Lib.hid ht
  obtain ⟨ad, cd, ak, ck, rfl, rfl, _, _, _, _⟩ := ht.form
  have HE := Lib.hid hE
  have HW := Lib.hid hwf
  obtain ⟨b1, b2, b3, b4⟩ := two_blocks w (.cells #[.int .u64 (t.num : Int), .bool t.blank, .slice ad t.data.length cd, .slice ak t.kids.length ck] 26) (.cells #[.int .u64 0, .bool false, .slice none 0 0, .slice none 0 0] 26)
  have hst : AtInv t way w (.int .i64 0) ((w.alloc (.cells #[.int .u64 (t.num : Int), .bool t.blank, .slice ad t.data.length cd, .slice ak t.kids.length ck] 26)).alloc (.cells #[.int .u64 0, .bool false, .slice none 0 0, .slice none 0 0] 26)) :=
    ⟨0, t, _, _, by omega, rfl, b4, b3, ht, by simp, below_al (below_al (Below.refl _ _) _) _⟩
  have HST := Lib.hid hst
  clear hst b1 b2 b3 b4 ht hE hwf
  go_enter Try.func15, Try.ntmps15
  go_wp2_with fail
  go_loopw [10] (fun i wr => AtInv t way w i wr) (fun i _ => way.length - (intOf i).toNat)
  case atStart => exact HST.out
  case round =>
    obtain ⟨j, u, dv, kv, hj, rfl, h0, h1, ht, ha, hb⟩ := hrel
    obtain ⟨aa, ca, e, l1, l2, _, hks⟩ := kids_form ht.kids
    obtain ⟨ad', cd', ak', ck', rfl, rfl, _, _, _, _⟩ := ht.form
    simp only [Value.slice.injEq] at e
    obtain ⟨rfl, _, rfl⟩ := e
    have hB := fun j => cell_of_heap (j := j) h0
    have hBf := fun j => free_of_heap (j := j) h0
    have hR := fun j => cell_of_heap (j := j) h1
    have hRf := fun j => free_of_heap (j := j) h1
    have B0 := hB 0
    have B1 := hB 1
    have B2 := hB 2
    have B3 := hB 3
    have R0 := hR 0
    have R1 := hR 1
    have R2 := hR 2
    have R3 := hR 3
    simp only [List.getElem?_toArray, List.getElem?_cons_succ, List.getElem?_cons_zero] at B0 B1 B2 B3 R0 R1 R2 R3
    clear hB hR
    have hul : u.kids.length ≤ 9223372036854775807 := by unfold maxLen at l2; omega
    by_cases hlt : j < way.length
    · obtain ⟨g, off, rfl, hg, hc⟩ : ∃ b off, a = some ⟨b, off, none⟩ ∧ b < w.heap.size ∧ ∀ j (h : j < way.length), w.cell? ⟨b, off + j, none⟩ = some (.int .i64 way[j]) := by
        rcases HE.out with h | h
        · subst h; simp at hlt
        · exact h
      have hck := hc j hlt
      rw [← hb.cell (p := ⟨g, _, none⟩) hg] at hck
      obtain ⟨x0, x1⟩ := bounds_i64 (HW.out way[j] (List.getElem_mem hlt))
      have hdr := drop_i way j hlt
      rw [hdr] at ha
      generalize way[j] = x at *
      by_cases hx : 0 ≤ x ∧ x < (u.kids.length : Int)
      · obtain ⟨hx0, hx1⟩ := hx
        obtain ⟨n, rfl⟩ := Int.eq_ofNat_of_zero_le hx0
        have hn : n < u.kids.length := by omega
        rw [Tr.at_in hn] at ha
        obtain ⟨g', off', rfl, hg', hc'⟩ := hks.resolve_left (by intro h; rw [h] at hn; simp at hn)
        obtain ⟨dv2, kv2, c0, c1, c2, c3, ht2⟩ := hc' n hn
        rw [← hb.cell (p := ⟨g', _, none⟩) hg'] at c0 c1 c2 c3
        have hN := AtInv.next (dv := dv2) (kv := kv2) hlt ⟨_, _, _, _, h0⟩ h1 ht2 ha hb
        obtain ⟨ad2, cd2, ak2, ck2, rfl, rfl, _, _, _, _⟩ := ht2.form
        have HN := Lib.hid hN
        have HC := Lib.hid hc
        have HC' := Lib.hid hc'
        have HH := Lib.hid (And.intro h0 h1)
        clear hN hc hc' h0 h1 ht ht2 hks ha hdr
        generalize u.kids[n] = u2 at *
        go_wp2_with fail
        exact ⟨HN.out, by simp [intOf]; omega⟩
      · rw [Tr.at_out hx] at ha
        have HA := Lib.hid ha.symm
        have hW := Lib.hid (below_set4 hb (Nat.le_succ w.heap.size) (.int .u64 0) (.bool false) (.slice none 0 0) (.slice none 0 0))
        clear ha hdr ht hks h0 h1 hc
        by_cases hxn : x < 0
        · clear hx
          go_wp2_with fail
          exact bodyPost_ret (v := .tuple #[.agg #[.int .u64 0, .bool false, .slice none 0 0, .slice none 0 0], .bool false]) (by simp [results, Try.results15, go_sem, R0, R1, R2, R3]) rfl ⟨hW.out, .inr ⟨HA.out, rfl⟩⟩
        · have hxg : (u.kids.length : Int) ≤ x := by omega
          clear hx
          go_wp2_with fail
          exact bodyPost_ret (v := .tuple #[.agg #[.int .u64 0, .bool false, .slice none 0 0, .slice none 0 0], .bool false]) (by simp [results, Try.results15, go_sem, R0, R1, R2, R3]) rfl ⟨hW.out, .inr ⟨HA.out, rfl⟩⟩
    · have hjl : j = way.length := by omega
      have HA : Hid (t.at_ way = some u) := by rw [← ha, hjl, List.drop_length]; rfl
      have HT2 := Lib.hid ht
      have hW := Lib.hid (below_set4 hb (Nat.le_succ w.heap.size) (.int .u64 (u.num : Int)) (.bool u.blank) (.slice ad' u.data.length cd') (.slice ak' u.kids.length ck'))
      clear ha ht hks h0 h1 hjl
      go_wp2_with fail
      exact bodyPost_ret (v := .tuple #[.agg #[.int .u64 (u.num : Int), .bool u.blank, .slice ad' u.data.length cd', .slice ak' u.kids.length ck'], .bool true]) (by simp [results, Try.results15, go_sem, R0, R1, R2, R3]) rfl ⟨hW.out, .inl ⟨u, _, _, HA.out, HT2.out, rfl⟩⟩
end Go.Proofs.Ytdogiobppeemiaa
