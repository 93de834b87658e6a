/- tree.Parts, tree.Depth: walks. -/
import Derived.Test.YtdogiobppeemiaaTr
import Derived.Test.YtdogiobppeemiaaProg
import Derived.Outline
import Derived.OwnWalk
import Derived.LoopTactic
import Derived.Laws.IdiomStrings
namespace Go.Proofs.Ytdogiobppeemiaa
set_option linter.unusedSimpArgs false
set_option linter.unusedVariables false
set_option linter.unnecessarySimpa false
open Go.RowKit

theorem bcell {W w1 : World} (hb : Below W.heap.size W w1) : (∀ b o, b < W.heap.size → w1.cell? ⟨b, o, none⟩ = W.cell? ⟨b, o, none⟩) ∧ (∀ b o, b < W.heap.size → w1.frozen? ⟨b, o, none⟩ = W.frozen? ⟨b, o, none⟩) :=
  ⟨fun b o h => hb.cell (p := ⟨b, o, none⟩) h, fun b o h => hb.frozen (p := ⟨b, o, none⟩) h⟩

/-- A tree as a value. -/
def tv (n : Nat) (b : Bool) (dv kv : Value) : Value := .agg #[.int .u64 (n : Int), .bool b, dv, kv]

def PartsInv (w : World) (ks : List Tr) (i v : Value) (wr : World) : Prop :=
  ∃ (j s : Nat), j ≤ ks.length ∧ i = .int .i64 (j : Int) ∧ v = .int .i64 (s : Int) ∧ s = 1 + Tr.sizes (ks.take j) ∧ Below w.heap.size w wr
theorem ret_i {a b : Int} (h : a = b) : Ending.returned (.int .i64 a) = .returned (.int .i64 b) := by rw [h]

theorem PartsInv.next {w w2 : World} {ks : List Tr} {j s : Nat} (hlt : j < ks.length) (hs : s = 1 + Tr.sizes (ks.take j)) (h2 : Below w.heap.size w w2) : PartsInv w ks (.int .i64 ((j : Int) + 1)) (.int .i64 ((s : Int) + (ks[j].size : Int))) w2 :=
  ⟨j + 1, s + ks[j].size, by omega, rfl, rfl, by rw [Tr.sizes_take ks j hlt]; omega, h2⟩

set_option maxHeartbeats 400000 in
theorem parts_any (k : Nat) : ∀ (t : Tr) (dv kv : Value) (w : World), t.size ≤ k → t.size ≤ 1000000 → TrAt (· < w.heap.size) w t dv kv →
    Calls Try.prog 17 #[.agg #[.int .u64 (t.num : Int), .bool t.blank, dv, kv]] w fun e w' => e = .returned (.int .i64 (t.size : Int)) ∧ Below w.heap.size w w' := by
  induction k with
  | zero => intro t dv kv w h; have := t.size_pos; omega
  | succ k ih =>
    intro t dv kv w hk hbig ht
    have IH := Lib.hid ih
    obtain ⟨n, b, d, ks⟩ := t
    obtain ⟨a, cap, rfl, h1, h2, _, hks⟩ := kids_form ht.kids
    simp only at hks h1 h2
    have hml : ks.length ≤ 9223372036854775807 := by unfold maxLen at h2; omega
    rw [Tr.size] at hk hbig ⊢
    have HK := Lib.hid hks
    clear h1 h2 ht ih hks
    go_enter Try.func17, Try.ntmps17
    go_wp2_with fail
    go_loopw [9, 3] (fun i v wr => PartsInv w ks i v wr) (fun i _ _ => ks.length - (intOf i).toNat)
    case atStart => exact ⟨0, 1, by omega, rfl, rfl, by simp [Tr.sizes], (Below.refl _ _).alloc (Nat.le_refl _) _⟩
    case round =>
      obtain ⟨j, s, hj, rfl, rfl, hs, hb⟩ := hrel
      by_cases hlt : j < ks.length
      · obtain ⟨g, off, rfl, hg, hc⟩ := HK.out.resolve_left (by intro h; subst h; simp at hlt)
        obtain ⟨dv', kv', c0, c1, c2, c3, ht'⟩ := hc j hlt
        rw [← hb.cell (p := ⟨g, _, none⟩) hg] at c0 c1 c2 c3
        have hst := Tr.sizes_take ks j hlt
        have hle := Tr.sizes_take_le ks (j + 1)
        have hp := ks[j].size_pos
        have hn := fun (w2 : World) (h2 : Below w.heap.size w w2) => PartsInv.next hlt hs h2
        have HN := Lib.hid hn
        have hsb : (s : Int) + (ks[j].size : Int) ≤ 1000000 := by omega
        have hjs : ks[j].size ≤ k := by omega
        clear hs hst hle hk hbig hn
        obtain ⟨ad, cd, ak, ck, rfl, rfl, _, _, _, _⟩ := ht'.form
        have HT := Lib.hid ht'
        have HC := Lib.hid hc
        clear ht' hc
        generalize ks[j] = t at *
        go_wp2_with fail
        refine (IH.out _ _ _ _ hjs (by omega) (HT.out.up (hb.alloc hb.size _))).mono ?_
        rintro e w2 ⟨rfl, hb2⟩
        go_wp2_with fail
        exact ⟨HN.out _ ((hb.alloc hb.size _).trans (hb2.mono (Nat.le_trans hb.size (by simp)))), by simp [intOf]; omega⟩
      · have hjl : j = ks.length := by omega
        have hs' : s = 1 + Tr.sizes ks := by rw [hs, hjl, List.take_length]
        clear hs hjl
        go_wp2_with fail
        go_ret
        exact ⟨ret_i (by rw [hs']), hb⟩

theorem Tr.deeps_append : ∀ a b : List Tr, Tr.deeps (a ++ b) = max (Tr.deeps a) (Tr.deeps b)
  | [], _ => by simp [Tr.deeps]
  | t :: r, b => by rw [List.cons_append, Tr.deeps, Tr.deeps, Tr.deeps_append r b, Nat.max_assoc]
theorem Tr.deeps_take (ks : List Tr) (j : Nat) (h : j < ks.length) : Tr.deeps (ks.take (j + 1)) = max (Tr.deeps (ks.take j)) ks[j].deep := by
  rw [List.take_succ_eq_append_getElem h, Tr.deeps_append]; simp [Tr.deeps]
mutual
theorem Tr.deep_le : ∀ t : Tr, t.deep ≤ t.size
  | .node _ _ _ ks => by rw [Tr.deep, Tr.size]; have := Tr.deeps_le ks; omega
theorem Tr.deeps_le : ∀ ks : List Tr, Tr.deeps ks ≤ Tr.sizes ks
  | [] => Nat.le_refl _
  | t :: r => by rw [Tr.deeps, Tr.sizes]; have := Tr.deep_le t; have := Tr.deeps_le r; omega
end
def DepthInv (w : World) (ks : List Tr) (i v : Value) (wr : World) : Prop :=
  ∃ (j s : Nat), j ≤ ks.length ∧ i = .int .i64 (j : Int) ∧ v = .int .i64 (s : Int) ∧ s = Tr.deeps (ks.take j) ∧ Below w.heap.size w wr
theorem DepthInv.next {w w2 : World} {ks : List Tr} {j s : Nat} (hlt : j < ks.length) (hs : s = Tr.deeps (ks.take j)) (h2 : Below w.heap.size w w2) (v : Value) (hv : v = .int .i64 (max s ks[j].deep : Nat)) : DepthInv w ks (.int .i64 ((j : Int) + 1)) v w2 :=
  ⟨j + 1, max s ks[j].deep, by omega, rfl, hv, by rw [Tr.deeps_take ks j hlt, hs], h2⟩

set_option maxHeartbeats 400000 in
theorem depth_any (k : Nat) : ∀ (t : Tr) (dv kv : Value) (w : World), t.size ≤ k → t.size ≤ 1000000 → TrAt (· < w.heap.size) w t dv kv →
    Calls Try.prog 13 #[.agg #[.int .u64 (t.num : Int), .bool t.blank, dv, kv]] w fun e w' => e = .returned (.int .i64 (t.deep : Int)) ∧ Below w.heap.size w w' := by
  induction k with
  | zero => intro t dv kv w h; have := t.size_pos; omega
  | succ k ih =>
    intro t dv kv w hk hbig ht
    have IH := Lib.hid ih
    obtain ⟨n, b, d, ks⟩ := t
    obtain ⟨a, cap, rfl, h1, h2, _, hks⟩ := kids_form ht.kids
    simp only at hks h1 h2
    have hml : ks.length ≤ 9223372036854775807 := by unfold maxLen at h2; omega
    have hds := Tr.deeps_le ks
    rw [Tr.size] at hk hbig
    rw [Tr.deep]
    have HK := Lib.hid hks
    clear h1 h2 ht ih hks
    go_enter Try.func13, Try.ntmps13
    go_wp2_with fail
    go_loopw [9, 3] (fun i v wr => DepthInv w ks i v wr) (fun i _ _ => ks.length - (intOf i).toNat)
    case atStart => exact ⟨0, 0, by omega, rfl, rfl, by simp [Tr.deeps], (Below.refl _ _).alloc (Nat.le_refl _) _⟩
    case round =>
      obtain ⟨j, s, hj, rfl, rfl, hs, hb⟩ := hrel
      by_cases hlt : j < ks.length
      · obtain ⟨g, off, rfl, hg, hc⟩ := HK.out.resolve_left (by intro h; subst h; simp at hlt)
        obtain ⟨dv', kv', c0, c1, c2, c3, ht'⟩ := hc j hlt
        rw [← hb.cell (p := ⟨g, _, none⟩) hg] at c0 c1 c2 c3
        have hn := fun (w2 : World) (h2 : Below w.heap.size w w2) v hv => DepthInv.next hlt hs h2 v hv
        have HN := Lib.hid hn
        have hle := Tr.sizes_at j hlt
        have hjs : ks[j].size ≤ k := by omega
        have hjd := ks[j].deep_le
        have hsd : s ≤ 1000000 := by have := Tr.deeps_le (ks.take j); have := Tr.sizes_take_le ks j; omega
        clear hs hk hn
        obtain ⟨ad, cd, ak, ck, rfl, rfl, _, _, _, _⟩ := ht'.form
        have HT := Lib.hid ht'
        have HC := Lib.hid hc
        clear ht' hc
        generalize ks[j] = t at *
        go_wp2_with fail
        refine (IH.out _ _ _ _ hjs (by omega) (HT.out.up (hb.alloc hb.size _))).mono ?_
        rintro e w2 ⟨rfl, hb2⟩
        go_wp2_with fail
        exact ⟨HN.out _ ((hb.alloc hb.size _).trans (hb2.mono (Nat.le_trans hb.size (by simp)))) _ (by congr 1; split <;> omega), by simp [intOf]; omega⟩
      · have hjl : j = ks.length := by omega
        have hs' : s = Tr.deeps ks := by rw [hs, hjl, List.take_length]
        have hsd : s ≤ 1000000 := by omega
        clear hs hjl
        go_wp2_with fail
        go_ret
        exact ⟨ret_i (by omega), hb⟩

/-- 'string(b)' of a slice of bytes that is data. -/
theorem string_of_data {P : Program} {ok : Nat → Prop} {w : World} {src dst e : TypeId} {d : List UInt8} {dv : Value} (h : (C.sl 1 (d.map byteC)).rep ok w dv)
    (hs : P.underlying src = some (.slice e)) (he : P.underlying e = some (.int .u8)) (hd : P.underlying dst = some .string) :
    (convert src dst dv).run P w = .ok (.string ⟨d.toArray⟩) w := by
  obtain ⟨a, cap, rfl, _, _, _, h⟩ := data_form h
  rcases h with rfl | ⟨b, off, rfl, _, hc⟩
  · rw [run_convert_bytes_string w src dst e _ _ _ hs he hd]
    cases a with
    | none => rfl
    | some a => rw [show ([] : List UInt8).length = 0 from rfl]; exact run_bytesToString (P := P) w a 0 cap [] (run_loadCells_list w a [] (by simp))
  · exact run_convert_bytes_back w src dst e ⟨b, off, none⟩ cap d hs he hd (fun j hj => by rw [Addr.add_lit]; exact hc j hj)

/-! ### Are two trees the same? -/
mutual
theorem Tr.eq_dec : ∀ a b : Tr, a = b ∨ a ≠ b
  | .node n b d ks, .node n' b' d' ks' => by
    rcases Tr.eqs_dec ks ks' with h | h
    · by_cases h1 : n = n' ∧ b = b' ∧ d = d'
      · obtain ⟨rfl, rfl, rfl⟩ := h1; subst h; exact .inl rfl
      · right; intro e; simp only [Tr.node.injEq] at e; exact h1 ⟨e.1, e.2.1, e.2.2.1⟩
    · right; intro e; simp only [Tr.node.injEq] at e; exact h e.2.2.2
theorem Tr.eqs_dec : ∀ a b : List Tr, a = b ∨ a ≠ b
  | [], [] => .inl rfl
  | [], _ :: _ => .inr (by simp)
  | _ :: _, [] => .inr (by simp)
  | x :: r, y :: s => by
    rcases Tr.eq_dec x y with h | h
    · rcases Tr.eqs_dec r s with h' | h'
      · exact .inl (by rw [h, h'])
      · exact .inr (by simp [h'])
    · exact .inr (by simp [h])
end
open Classical in
/-- Are they the same? -/
noncomputable def Tr.same (a b : Tr) : Bool := decide (a = b)
open Classical in
noncomputable def Tr.sames (a b : List Tr) : Bool := decide (a = b)
theorem Tr.same_true {a b : Tr} : Tr.same a b = true ↔ a = b := by unfold Tr.same; simp
theorem Tr.same_false {a b : Tr} : Tr.same a b = false ↔ a ≠ b := by unfold Tr.same; simp
theorem Tr.sames_true {a b : List Tr} : Tr.sames a b = true ↔ a = b := by unfold Tr.sames; simp
theorem Tr.sames_false {a b : List Tr} : Tr.sames a b = false ↔ a ≠ b := by unfold Tr.sames; simp

theorem ret_b {a b : Bool} (h : a = b) : Ending.returned (.bool a) = .returned (.bool b) := by rw [h]
/-- What tree.Same says of trees up to a size. -/
def SameSaid (k : Nat) : Prop := ∀ (a b : Tr) (da ka db kb : Value) (w : World), a.size ≤ k → a.ok → b.ok → TrAt (· < w.heap.size) w a da ka → TrAt (· < w.heap.size) w b db kb →
    Calls Try.prog 12 #[.agg #[.int .u64 (a.num : Int), .bool a.blank, da, ka], .agg #[.int .u64 (b.num : Int), .bool b.blank, db, kb]] w fun e w' => e = .returned (.bool (Tr.same a b)) ∧ Below w.heap.size w w'

def EqfInv (w : World) (xs ys : List Tr) (i : Value) (wr : World) : Prop :=
  ∃ j : Nat, j ≤ xs.length ∧ i = .int .i64 (j : Int) ∧ xs.take j = ys.take j ∧ Below w.heap.size w wr

theorem EqfInv.next {w w2 : World} {xs ys : List Tr} {j : Nat} (hx : j < xs.length) (hy : j < ys.length) (ht : xs.take j = ys.take j) (he : xs[j] = ys[j]) (h2 : Below w.heap.size w w2) : EqfInv w xs ys (.int .i64 ((j : Int) + 1)) w2 :=
  ⟨j + 1, by omega, rfl, by rw [List.take_succ_eq_append_getElem hx, List.take_succ_eq_append_getElem hy, ht, he], h2⟩

set_option maxHeartbeats 800000 in
theorem eqf_any (k : Nat) (ih : SameSaid k) (xs ys : List Tr) (kx ky : Value) (w : World) (hk : Tr.sizes xs ≤ k) (ox : Tr.oks xs) (oy : Tr.oks ys) (hx : (C.sl 4 (Tr.cs xs)).rep (· < w.heap.size) w kx) (hy : (C.sl 4 (Tr.cs ys)).rep (· < w.heap.size) w ky) :
    Calls Try.prog 29 #[kx, ky, .func (.func 12) #[] #[]] w fun e w' => e = .returned (.bool (Tr.sames xs ys)) ∧ Below w.heap.size w w' := by
  obtain ⟨a, cap, rfl, h1, h2, _, hxs⟩ := kids_form hx
  obtain ⟨a', cap', rfl, h1', h2', _, hys⟩ := kids_form hy
  have hml : xs.length ≤ 9223372036854775807 := by unfold maxLen at h2; omega
  have hml' : ys.length ≤ 9223372036854775807 := by unfold maxLen at h2'; omega
  clear h1 h2 h1' h2' hx hy
  have HX := Lib.hid hxs
  have HY := Lib.hid hys
  have IH := Lib.hid ih
  have OX := Lib.hid ox
  have OY := Lib.hid oy
  have HK := Lib.hid hk
  clear hxs hys ih ox oy hk
  by_cases hl : xs.length = ys.length
  · have hne : ((xs.length : Int) != (ys.length : Int)) = false := by rw [bne_eq_false_iff_eq]; omega
    have HL := Lib.hid hl
    clear hl
    go_enter Try.func29, Try.ntmps29
    go_wp2_with fail
    go_loopw [17] (fun i wr => EqfInv w xs ys i wr) (fun i _ => xs.length - (intOf i).toNat)
    case atStart => exact ⟨0, by omega, rfl, by simp, Below.refl _ _⟩
    case round =>
      obtain ⟨j, hj, rfl, htk, hb⟩ := hrel
      by_cases hlt : j < xs.length
      · have hlt' : j < ys.length := by rw [← HL.out]; exact hlt
        obtain ⟨g, off, rfl, hg, hc⟩ := HX.out.resolve_left (by intro h; subst h; simp at hlt)
        obtain ⟨g', off', rfl, hg', hc'⟩ := HY.out.resolve_left (by intro h; subst h; simp at hlt')
        obtain ⟨dv, kv, c0, c1, c2, c3, ht⟩ := hc j hlt
        obtain ⟨dv', kv', c0', c1', c2', c3', ht'⟩ := hc' j hlt'
        rw [← hb.cell (p := ⟨g, _, none⟩) hg] at c0 c1 c2 c3
        rw [← hb.cell (p := ⟨g', _, none⟩) hg'] at c0' c1' c2' c3'
        have hgr : g < wr.heap.size := Nat.lt_of_lt_of_le hg hb.size
        have hgr' : g' < wr.heap.size := Nat.lt_of_lt_of_le hg' hb.size
        have hn := fun he w2 h2 => EqfInv.next (w := w) (w2 := w2) hlt hlt' htk he h2
        have HN := Lib.hid hn
        have hle := Tr.sizes_at j hlt
        have hjs : xs[j].size ≤ k := Nat.le_trans hle HK.out
        have ok1 := Tr.oks_at OX.out j hlt
        have ok2 := Tr.oks_at OY.out j hlt'
        have hdiff : xs[j] ≠ ys[j] → Tr.sames xs ys = false := by
          intro h; rw [Tr.sames_false]; intro e; subst e; exact h rfl
        have HD := Lib.hid hdiff
        obtain ⟨ad, cd, ak, ck, rfl, rfl, _, _, _, _⟩ := ht.form
        obtain ⟨ad', cd', ak', ck', rfl, rfl, _, _, _, _⟩ := ht'.form
        have HT := Lib.hid ht
        have HT' := Lib.hid ht'
        have HO := Lib.hid (And.intro ok1 ok2)
        have HC := Lib.hid hc
        have HC' := Lib.hid hc'
        clear ht ht' hc hc' hn hle ok1 ok2 hdiff htk
        generalize xs[j] = t at *
        generalize ys[j] = t' at *
        have hW : ∀ A1 A2, Below w.heap.size w ((wr.alloc A1).alloc A2) := fun A1 A2 => (hb.alloc hb.size _).alloc (Nat.le_trans hb.size (by simp)) _
        have HW := Lib.hid hW
        clear hW
        rcases Tr.eq_dec t t' with hsm | hsm
        · have HS := Lib.hid (Tr.same_true.2 hsm)
          have HN' := Lib.hid (HN.out hsm)
          clear hsm
          go_wp2_with fail
          refine (IH.out _ _ _ _ _ _ _ hjs HO.out.1 HO.out.2 (HT.out.up (HW.out _ _)) (HT'.out.up (HW.out _ _))).mono ?_
          rintro e w2 ⟨rfl, hb2⟩
          rw [HS.out]
          go_wp2_with fail
          exact ⟨HN'.out _ ((HW.out _ _).trans (hb2.mono (HW.out _ _).size)), by simp [intOf]; omega⟩
        · have HS := Lib.hid (Tr.same_false.2 hsm)
          have HD' := Lib.hid (HD.out hsm)
          clear hsm
          go_wp2_with fail
          refine (IH.out _ _ _ _ _ _ _ hjs HO.out.1 HO.out.2 (HT.out.up (HW.out _ _)) (HT'.out.up (HW.out _ _))).mono ?_
          rintro e w2 ⟨rfl, hb2⟩
          rw [HS.out]
          go_wp2_with fail
          go_ret
          exact ⟨ret_b (by rw [HD'.out]), (HW.out _ _).trans (hb2.mono (HW.out _ _).size)⟩
      · have hjl : xs = ys := by
          rw [List.take_of_length_le (by omega), List.take_of_length_le (by have := HL.out; omega)] at htk
          exact htk
        have HS := Lib.hid (Tr.sames_true.2 hjl)
        clear hjl htk
        go_wp2_with fail
        go_ret
        exact ⟨ret_b (by rw [HS.out]), hb⟩
  · have hne : ((xs.length : Int) != (ys.length : Int)) = true := by rw [bne_iff_ne]; omega
    have hd : Tr.sames xs ys = false := by rw [Tr.sames_false]; intro e; subst e; exact hl rfl
    have HD := Lib.hid hd
    clear hl hd
    go_enter Try.func29, Try.ntmps29
    go_wp2_with fail
    go_ret
    exact ⟨ret_b (by rw [HD.out]), Below.refl _ _⟩

theorem TrAt.alloc {w : World} {t : Tr} {dv kv : Value} (h : TrAt (· < w.heap.size) w t dv kv) (o : Obj) : TrAt (· < (w.alloc o).heap.size) (w.alloc o) t dv kv :=
  h.up ((Below.refl _ _).alloc (Nat.le_refl _) _)
theorem below_alloc2 (w : World) (o1 o2 : Obj) : Below w.heap.size w ((w.alloc o1).alloc o2) := ((Below.refl _ _).alloc (Nat.le_refl _) _).alloc (by simp) _
set_option maxHeartbeats 1600000 in
theorem same_step (k : Nat) (ih : SameSaid k) : SameSaid (k + 1) := by
  intro a b da ka db kb w hk oa ob ha hb
  have hE := eqf_any k ih a.kids b.kids ka kb
  obtain ⟨n, bl, d, ks⟩ := a
  obtain ⟨n', bl', d', ks'⟩ := b
  simp only at hE
  have hE' := hE ((w.alloc (.cells #[.int .u64 (n : Int), .bool bl, da, ka] 26)).alloc (.cells #[.int .u64 (n' : Int), .bool bl', db, kb] 26)) (by rw [Tr.size] at hk; omega) oa.2.2.2 ob.2.2.2 (ha.up (below_alloc2 _ _ _)).kids (hb.up (below_alloc2 _ _ _)).kids
  have cd := string_of_data (P := Try.prog) (ha.up (below_alloc2 w (.cells #[.int .u64 (n : Int), .bool bl, da, ka] 26) (.cells #[.int .u64 (n' : Int), .bool bl', db, kb] 26))).data Try.underlying23 Try.underlying5 Try.underlying9
  have cd' := string_of_data (P := Try.prog) (hb.up (below_alloc2 w (.cells #[.int .u64 (n : Int), .bool bl, da, ka] 26) (.cells #[.int .u64 (n' : Int), .bool bl', db, kb] 26))).data Try.underlying23 Try.underlying5 Try.underlying9
  simp only at cd cd'
  obtain ⟨ad, cda, ak, cka, rfl, rfl, _, _, _, _⟩ := ha.form
  obtain ⟨ad', cdb, ak', ckb, rfl, rfl, _, _, _, _⟩ := hb.form
  simp only at *
  have HE := Lib.hid hE'
  clear hE hE' ih ha hb oa ob hk
  by_cases e1 : n = n'
  · subst e1
    by_cases e2 : bl = bl'
    · subst e2
      by_cases e3 : d = d'
      · subst e3
        have hs : Tr.same ⟨n, bl, d, ks⟩ ⟨n, bl, d, ks'⟩ = Tr.sames ks ks' := by
          rcases Tr.eqs_dec ks ks' with h | h
          · subst h; rw [Tr.same_true.2 rfl, Tr.sames_true.2 rfl]
          · rw [Tr.sames_false.2 h, Tr.same_false]; intro e; simp only [Tr.node.injEq] at e; exact h e.2.2.2
        have HS := Lib.hid hs
        clear hs
        go_enter Try.func12, Try.ntmps12
        go_wp2_with fail
        refine HE.out.mono ?_
        rintro e w2 ⟨rfl, hb2⟩
        go_wp2_with fail
        go_ret
        exact ⟨ret_b (by rw [HS.out]), (below_alloc2 _ _ _).trans (hb2.mono (below_alloc2 _ _ _).size)⟩
      · have HS := Lib.hid (Tr.same_false.2 (show (⟨n, bl, d, ks⟩ : Tr) ≠ ⟨n, bl, d', ks'⟩ from by intro e; simp only [Tr.node.injEq] at e; exact e3 e.2.2.1))
        go_enter Try.func12, Try.ntmps12
        go_wp2_with fail
        go_ret
        exact ⟨ret_b (by rw [HS.out]), below_alloc2 _ _ _⟩
    · have HS := Lib.hid (Tr.same_false.2 (show (⟨n, bl, d, ks⟩ : Tr) ≠ ⟨n, bl', d', ks'⟩ from by intro e; simp only [Tr.node.injEq] at e; exact e2 e.2.1))
      have hx : (bl == bl') = false := by simpa using e2
      go_enter Try.func12, Try.ntmps12
      go_wp2_with fail
      go_ret
      exact ⟨ret_b (by rw [HS.out]), below_alloc2 _ _ _⟩
  · have HS := Lib.hid (Tr.same_false.2 (show (⟨n, bl, d, ks⟩ : Tr) ≠ ⟨n', bl', d', ks'⟩ from by intro e; simp only [Tr.node.injEq] at e; exact e1 e.1))
    have hx : ((n : Int) == (n' : Int)) = false := by rw [beq_eq_false_iff_ne]; omega
    go_enter Try.func12, Try.ntmps12
    go_wp2_with fail
    go_ret
    exact ⟨ret_b (by rw [HS.out]), below_alloc2 _ _ _⟩
theorem same_said : ∀ k, SameSaid k
  | 0 => fun a _ _ _ _ _ _ h => by have := a.size_pos; omega
  | k + 1 => same_step k (same_said k)
end Go.Proofs.Ytdogiobppeemiaa
