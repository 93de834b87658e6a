/- tree.write, tree.Text: what they write, and the walks. -/
import Derived.Test.YtdogiobppeemiaaBl
import Derived.Test.YtdogiobppeemiaaTc
import Derived.Test.YtdogiobppeemiaaWd
import Derived.Deep.DeepCutAuto
import Derived.Outline
namespace Go.Proofs.Ytdogiobppeemiaa
set_option linter.unusedSimpArgs false
set_option linter.unusedVariables false
set_option linter.unnecessarySimpa false
open Go.RowKit

def hexB (n : Nat) : UInt8 := if n < 10 then UInt8.ofNat (48 + n) else UInt8.ofNat (87 + n)
def hexT (d : List UInt8) : List UInt8 := d.flatMap fun x => [hexB (x.toNat / 16), hexB (x.toNat % 16)]
def dataT (d : List UInt8) : List UInt8 := if d = [] then [] else 58 :: hexT d
def headT (n : Nat) (b : Bool) (d : List UInt8) : List UInt8 := (if b = true then [95] else []) ++ digs n ++ dataT d
mutual
/-- A tree's text. -/
def Tr.text : Tr → List UInt8
  | .node n b d ks => headT n b d ++ (if ks = [] then [] else Tr.texts true ks ++ [41])
def Tr.texts : Bool → List Tr → List UInt8
  | _, [] => []
  | f, t :: r => (if f = true then 40 else 44) :: (Tr.text t ++ Tr.texts false r)
end
theorem hexT_snoc (d : List UInt8) (x : UInt8) : hexT (d ++ [x]) = hexT d ++ [hexB (x.toNat / 16)] ++ [hexB (x.toNat % 16)] := by simp [hexT]
theorem Tr.texts_append (a b : List Tr) (f : Bool) (h : a ≠ []) : Tr.texts f (a ++ b) = Tr.texts f a ++ Tr.texts false b := by
  induction a generalizing f with
  | nil => exact absurd rfl h
  | cons t r ih =>
    by_cases hr : r = []
    · subst hr; simp [Tr.texts]
    · rw [List.cons_append, Tr.texts, Tr.texts, ih false hr]; simp
theorem Tr.texts_snoc (a : List Tr) (t : Tr) : Tr.texts true (a ++ [t]) = Tr.texts true a ++ [if a = [] then 40 else 44] ++ t.text := by
  by_cases h : a = []
  · subst h; simp [Tr.texts]
  · rw [Tr.texts_append a [t] true h, if_neg h]; simp [Tr.texts]

def byteVs (l : List UInt8) : List Value := l.map byteV
theorem byteVs_append (a b : List UInt8) : byteVs (a ++ b) = byteVs a ++ byteVs b := by simp [byteVs]

/-- The state of write: what has been written; the tree's box is as it was. -/
structure WrSt (w : World) (B b : Nat) (t : Tr) (dv kv : Value) (bs0 : List Value) (v0 : Value) (out : List UInt8) (v : Value) (wx : World) : Prop where
  bld : Bld B b (bs0 ++ byteVs out) v wx
  st : Bst b v0 v w wx
  box : wx.heap[w.heap.size]? = some (.cells #[.int .u64 (t.num : Int), .bool t.blank, dv, kv] 26 (0, 0))
  nb : w.heap.size ≠ b
  safe : v.ownBlock ≠ some w.heap.size
  lt : w.heap.size < wx.heap.size
theorem WrSt.wrote {w wx w' : World} {B b : Nat} {t : Tr} {dv kv v0 v v' : Value} {bs0 : List Value} {out new : List UInt8} (h : WrSt w B b t dv kv bs0 v0 out v wx)
    (h1 : Bld B b ((bs0 ++ byteVs out) ++ byteVs new) v' w') (h2 : Bst b v v' wx w') : WrSt w B b t dv kv bs0 v0 (out ++ new) v' w' := by
  obtain ⟨e1, e2⟩ := h2.block _ h.lt h.nb h.safe
  exact ⟨by rw [byteVs_append, ← List.append_assoc]; exact h1, h.st.trans h2, e1.trans h.box, h.nb, e2, Nat.lt_of_lt_of_le h.lt h2.size⟩
theorem WrSt.below {w wx w' : World} {B b : Nat} {t : Tr} {dv kv v0 v : Value} {bs0 : List Value} {out : List UInt8} (h : WrSt w B b t dv kv bs0 v0 out v wx) (hb : Below wx.heap.size wx w') : WrSt w B b t dv kv bs0 v0 out v w' :=
  ⟨h.bld.below hb, h.st.trans (Bst.of_below hb), (hb.block _ h.lt).trans h.box, h.nb, h.safe, Nat.lt_of_lt_of_le h.lt hb.size⟩
theorem WrSt.start {w : World} {B b : Nat} {t : Tr} {dv kv v0 : Value} {bs0 : List Value} (h : Bld B b bs0 v0 w) (A : Obj) (hA : A = .cells #[.int .u64 (t.num : Int), .bool t.blank, dv, kv] 26) : WrSt w B b t dv kv bs0 v0 [] v0 (w.alloc A) := by
  subst hA
  have hb : Below w.heap.size w (w.alloc (.cells #[.int .u64 (t.num : Int), .bool t.blank, dv, kv] 26)) := below_al (Below.refl _ _) _
  exact ⟨by simpa [byteVs] using h.below hb, Bst.of_below hb, heap_new _ _, by have := h.lt; omega, fun e => by have := owned_lt h.own _ e; omega, by rw [size_al]; omega⟩

theorem WrSt.cells {w wx : World} {B b : Nat} {t : Tr} {dv kv v0 v : Value} {bs0 : List Value} {out : List UInt8} (h : WrSt w B b t dv kv bs0 v0 out v wx) :
    wx.cell? ⟨w.heap.size, 0, none⟩ = some (.int .u64 (t.num : Int)) ∧ wx.cell? ⟨w.heap.size, 1, none⟩ = some (.bool t.blank) ∧ wx.cell? ⟨w.heap.size, 2, none⟩ = some dv ∧ wx.cell? ⟨w.heap.size, 3, none⟩ = some kv :=
  ⟨cell_of_heap h.box, cell_of_heap h.box, cell_of_heap h.box, cell_of_heap h.box⟩
theorem room_of {bs : List Value} {text out new rest : List UInt8} (e : text = out ++ (new ++ rest)) (h : bs.length + text.length ≤ 140737488355328) : (bs ++ byteVs out).length + new.length ≤ 140737488355328 := by
  subst e; simp [byteVs] at h ⊢; omega
theorem byteVs_one (x : UInt8) : byteVs [x] = [.int .u8 (x.toNat : Int)] := rfl
theorem strCells_byteVs (l : List UInt8) : Lib.strCells ⟨l.toArray⟩ = byteVs l := rfl
theorem WrSt.room {w wx : World} {B b : Nat} {t : Tr} {dv kv v0 v : Value} {bs0 : List Value} {out : List UInt8} (h : WrSt w B b t dv kv bs0 v0 out v wx) (hB : B ≤ w.heap.size) : B ≤ wx.heap.size := Nat.le_trans hB (Nat.le_of_lt h.lt)
/-- A byte more. -/
theorem WrSt.byte {w wx : World} {B b : Nat} {t : Tr} {dv kv v0 v : Value} {bs0 : List Value} {out : List UInt8} (h : WrSt w B b t dv kv bs0 v0 out v wx) (hB : B ≤ w.heap.size) (x : UInt8) {text rest : List UInt8} (e : text = out ++ ([x] ++ rest)) (hr : bs0.length + text.length ≤ 140737488355328)
    (c : Int) (hc : c = (x.toNat : Int)) :
    Calls Try.prog 36 #[.pointer (some ⟨b, 0, none⟩), .int .u8 c] wx fun e w' => e = .returned .nilIface ∧ ∃ v', WrSt w B b t dv kv bs0 v0 (out ++ [x]) v' w' ∧ Bst b v v' wx w' := by
  subst hc
  refine (writeByte_any B b _ v _ wx h.bld (room_of e hr) (h.room hB)).mono ?_
  rintro e w' ⟨v', rfl, h1, h2⟩
  exact ⟨rfl, v', h.wrote h1 h2, h2⟩

def WriteSaid (k : Nat) : Prop := ∀ (t : Tr) (dv kv : Value) (B b : Nat) (bs : List Value) (v : Value) (w : World), t.size ≤ k → t.ok → Bld B b bs v w → B ≤ w.heap.size → TrAt (· < B) w t dv kv → bs.length + t.text.length ≤ 140737488355328 →
    Calls Try.prog 27 #[.pointer (some ⟨b, 0, none⟩), .agg #[.int .u64 (t.num : Int), .bool t.blank, dv, kv]] w (Wrote B b (bs ++ byteVs t.text) v (.tuple #[]) w)

theorem text_parts (n : Nat) (bl : Bool) (d : List UInt8) (ks : List Tr) : Tr.text ⟨n, bl, d, ks⟩ = (if bl = true then [95] else []) ++ (digs n ++ (dataT d ++ (if ks = [] then [] else Tr.texts true ks ++ [41]))) := by
  rw [Tr.text, headT]; simp

theorem WrSt.old {w wx : World} {B b : Nat} {t : Tr} {dv kv v0 v : Value} {bs0 : List Value} {out : List UInt8} (h : WrSt w B b t dv kv bs0 v0 out v wx) (hb : Bld B b bs0 v0 w) (hB : B ≤ w.heap.size) : Below B w wx := h.st.below hb hB
def DatInv (w : World) (B b : Nat) (t : Tr) (dv kv : Value) (bs0 : List Value) (v0 : Value) (out : List UInt8) (i : Value) (wr : World) : Prop :=
  ∃ (j : Nat) (v : Value), j ≤ t.data.length ∧ i = .int .i64 (j : Int) ∧ WrSt w B b t dv kv bs0 v0 (out ++ hexT (t.data.take j)) v wr
def KidInv (w : World) (B b : Nat) (t : Tr) (dv kv : Value) (bs0 : List Value) (v0 : Value) (out : List UInt8) (i : Value) (wr : World) : Prop :=
  ∃ (j : Nat) (v : Value), j ≤ t.kids.length ∧ i = .int .i64 (j : Int) ∧ WrSt w B b t dv kv bs0 v0 (out ++ Tr.texts true (t.kids.take j)) v wr
theorem texts_split (ks : List Tr) (j : Nat) (h : j < ks.length) : ∃ rest, Tr.texts true ks = Tr.texts true (ks.take j) ++ ([if j = 0 then 40 else 44] ++ (ks[j].text ++ rest)) := by
  have h1 : Tr.texts true ks = Tr.texts true (ks.take (j + 1) ++ ks.drop (j + 1)) := by rw [List.take_append_drop]
  have hne : ks.take (j + 1) ≠ [] := by intro e; have := congrArg List.length e; rw [List.length_take, List.length_nil] at this; omega
  rw [Tr.texts_append _ _ _ hne, List.take_succ_eq_append_getElem h, Tr.texts_snoc] at h1
  have hj : (ks.take j = []) ↔ j = 0 := by
    constructor
    · intro e; have := congrArg List.length e; rw [List.length_take, List.length_nil] at this; omega
    · intro e; subst e; rfl
  refine ⟨Tr.texts false (ks.drop (j + 1)), ?_⟩
  rw [h1]
  by_cases h0 : j = 0
  · subst h0; simp
  · rw [if_neg h0, if_neg (fun e => h0 (hj.1 e))]; simp
theorem texts_next (ks : List Tr) (j : Nat) (h : j < ks.length) : Tr.texts true (ks.take (j + 1)) = Tr.texts true (ks.take j) ++ [if j = 0 then 40 else 44] ++ ks[j].text := by
  rw [List.take_succ_eq_append_getElem h, Tr.texts_snoc]
  by_cases h0 : j = 0
  · subst h0; simp
  · rw [if_neg h0, if_neg (by intro e; have := congrArg List.length e; rw [List.length_take, List.length_nil] at this; omega)]
theorem hexT_app (a b : List UInt8) : hexT (a ++ b) = hexT a ++ hexT b := by simp [hexT]
theorem hexT_cons (x : UInt8) (b : List UInt8) : hexT (x :: b) = [hexB (x.toNat / 16)] ++ ([hexB (x.toNat % 16)] ++ hexT b) := by simp [hexT]
theorem hexT_split (d : List UInt8) (j : Nat) (h : j < d.length) : hexT d = hexT (d.take j) ++ ([hexB (d[j].toNat / 16)] ++ ([hexB (d[j].toNat % 16)] ++ hexT (d.drop (j + 1)))) := by
  have h1 : hexT d = hexT (d.take j ++ d.drop j) := by rw [List.take_append_drop]
  rw [h1, hexT_app, List.drop_eq_getElem_cons h, hexT_cons]
theorem hex_get (i : Nat) (h : i < 16) : (([48, 49, 50, 51, 52, 53, 54, 55, 56, 57, 97, 98, 99, 100, 101, 102] : List UInt8)[i]'h) = hexB i := by
  have key : ∀ j : Fin 16, (([48, 49, 50, 51, 52, 53, 54, 55, 56, 57, 97, 98, 99, 100, 101, 102] : List UInt8)[j.1]'j.2) = hexB j.1 := by decide
  exact key ⟨i, h⟩

set_option maxHeartbeats 3200000 in
theorem write_step (k : Nat) (ih : WriteSaid k) : WriteSaid (k + 1) := by
  intro t dv kv B b bs v w hk hok hbl hB ht hroom
  obtain ⟨ad, cd, ak, ck, rfl, rfl, _, hcd, _, hck⟩ := ht.form
  obtain ⟨n, bl, d, ks⟩ := t
  simp only at hcd hck ht ⊢
  have hst := fun A hA => WrSt.start (t := ⟨n, bl, d, ks⟩) (dv := .slice ad d.length cd) (kv := .slice ak ks.length ck) hbl A hA
  have HST := Lib.hid hst
  have HT := Lib.hid ht
  have IH := Lib.hid ih
  have HOK := Lib.hid hok
  have HX := Lib.hid (text_parts n bl d ks)
  have hn : n < 18446744073709551616 := by rw [Tr.ok] at hok; exact hok.1
  have hdl : d.length ≤ 9223372036854775807 := by rw [Tr.ok] at hok; have := hok.2.1; unfold maxLen at this; omega
  have hkl : ks.length ≤ 9223372036854775807 := by rw [Tr.ok] at hok; have := hok.2.2.1; unfold maxLen at this; omega
  unfold maxLen at hcd hck
  have HBL := Lib.hid hbl
  clear hst ht ih hok hbl
  go_enter Try.func27, Try.ntmps27
  go_upto_if 9 with fail
  go_cut [] (fun wx => ∃ v', WrSt w B b ⟨n, bl, d, ks⟩ (.slice ad d.length cd) (.slice ak ks.length ck) bs v (if bl = true then [95] else []) v' wx)
  case first =>
    cases bl
    · go_wp2_with fail
      go_meet
      exact ⟨v, HST.out _ rfl⟩
    · go_wp2_with fail
      refine ((HST.out _ rfl).byte hB 95 HX.out hroom 95 rfl).mono ?_
      rintro e w2 ⟨rfl, v2, h2, _⟩
      have H2 := Lib.hid h2
      clear h2
      go_wp2_with fail
      go_meet
      exact ⟨v2, H2.out⟩
  case rest =>
    obtain ⟨v1, h1⟩ := hcut
    obtain ⟨C0, C1, C2, C3⟩ := h1.cells
    simp only at C0 C1 C2 C3
    have H1 := Lib.hid h1
    clear h1
    go_upto_if 20 with fail
    refine (wdigits n _ hn).mono ?_
    rintro e w2 ⟨rfl, hb2⟩
    have h2 := H1.out.below hb2
    have H2 := Lib.hid h2
    clear h2 hb2
    go_upto_if 20 with fail
    refine (writeString_any B b _ v1 _ w2 H2.out.bld (by have := room_of (bs := bs) HX.out hroom; simpa [ByteArray.size] using this) (H2.out.room hB)).mono ?_
    rintro e w3 ⟨v3, rfl, g1, g2⟩
    have h3 := H2.out.wrote (new := digs n) (by rw [← strCells_byteVs]; exact g1) g2
    obtain ⟨C0, C1, C2, C3⟩ := h3.cells
    simp only at C0 C1 C2 C3
    have H3 := Lib.hid h3
    clear h3 g1 g2
    go_upto_if 20 with fail
    go_cut [] (fun wx => ∃ v', WrSt w B b ⟨n, bl, d, ks⟩ (.slice ad d.length cd) (.slice ak ks.length ck) bs v ((if bl = true then [95] else []) ++ digs n ++ dataT d) v' wx)
    case first =>
      by_cases hd : d = []
      · subst hd
        have HD := Lib.hid H3.out
        go_wp2_with fail
        go_meet
        exact ⟨v3, by simpa [dataT] using H3.out⟩
      · have hdp : 0 < d.length := List.length_pos_iff.2 hd
        have hdt : dataT d = [58] ++ hexT d := by rw [dataT, if_neg hd]; rfl
        have hx2 : Tr.text ⟨n, bl, d, ks⟩ = ((if bl = true then [95] else []) ++ digs n) ++ ([58] ++ (hexT d ++ (if ks = [] then [] else Tr.texts true ks ++ [41]))) := by rw [HX.out, hdt]; simp
        have HX2 := Lib.hid hx2
        have HDT := Lib.hid hdt
        clear hx2 hdt hd
        go_wp2_with fail
        refine (H3.out.byte hB 58 HX2.out hroom 58 rfl).mono ?_
        rintro e w4 ⟨rfl, v4, h4, _⟩
        obtain ⟨C0, C1, C2, C3⟩ := h4.cells
        simp only at C0 C1 C2 C3
        have H4 := Lib.hid h4
        clear h4
        go_wp2_with fail
        go_loopw [26] (fun i wr => DatInv w B b ⟨n, bl, d, ks⟩ (.slice ad d.length cd) (.slice ak ks.length ck) bs v (((if bl = true then [95] else []) ++ digs n) ++ [58]) i wr) (fun i _ => d.length - (intOf i).toNat)
        case atStart => exact ⟨0, v4, by omega, rfl, by simpa [hexT] using H4.out⟩
        case round =>
          obtain ⟨j, vj, hj, rfl, hw⟩ := hrel
          simp only at hj
          by_cases hlt : j < d.length
          · obtain ⟨_, _, e, _, _, _, hdd⟩ := data_form HT.out.data
            simp only [Value.slice.injEq] at e
            obtain ⟨rfl, _, rfl⟩ := e
            obtain ⟨g, off, rfl, hg, hc⟩ := hdd.resolve_left (fun h => absurd h (List.length_pos_iff.1 hdp))
            have hck := hc j hlt
            rw [← (hw.old HBL.out hB).cell (p := ⟨g, _, none⟩) hg] at hck
            have HW := Lib.hid hw
            have HCC := Lib.hid hc
            have hxb := (d[j]).toNat_lt
            have htk : d.take (j + 1) = d.take j ++ [d[j]] := List.take_succ_eq_append_getElem hlt
            have hdr : hexT d = hexT (d.take j) ++ ([hexB (d[j].toNat / 16)] ++ ([hexB (d[j].toNat % 16)] ++ hexT (d.drop (j + 1)))) := hexT_split d j hlt
            have hx3 : Tr.text ⟨n, bl, d, ks⟩ = ((((if bl = true then [95] else []) ++ digs n) ++ [58]) ++ hexT (d.take j)) ++ ([hexB (d[j].toNat / 16)] ++ ([hexB (d[j].toNat % 16)] ++ (hexT (d.drop (j + 1)) ++ (if ks = [] then [] else Tr.texts true ks ++ [41])))) := by rw [HX2.out, hdr]; simp
            have hx4 : Tr.text ⟨n, bl, d, ks⟩ = (((((if bl = true then [95] else []) ++ digs n) ++ [58]) ++ hexT (d.take j)) ++ [hexB (d[j].toNat / 16)]) ++ ([hexB (d[j].toNat % 16)] ++ (hexT (d.drop (j + 1)) ++ (if ks = [] then [] else Tr.texts true ks ++ [41]))) := by rw [hx3]; simp
            have hnx := hexT_snoc (d.take j) d[j]
            rw [← htk] at hnx
            have HX3 := Lib.hid hx3
            have HX4 := Lib.hid hx4
            have HNX := Lib.hid hnx
            have hb1 : (x : UInt8) → x.toNat / 16 < 16 := fun x => by have := x.toNat_lt; omega
            clear htk hdr hx3 hx4 hnx
            clear hw hc hdd
            generalize d[j] = x at *
            go_wp2_with fail
            refine (HW.out.byte hB _ HX3.out hroom _ (congrArg (fun u : UInt8 => (u.toNat : Int)) (hex_get (x.toNat / 16) (by omega)))).mono ?_
            rintro e w5 ⟨rfl, v5, h5, hs5⟩
            have hck5 : w5.cell? ⟨g, off + j, none⟩ = some (.int .u8 (x.toNat : Int)) := ((h5.old HBL.out hB).cell (p := ⟨g, _, none⟩) hg).trans (((HW.out.old HBL.out hB).cell (p := ⟨g, _, none⟩) hg).symm.trans hck)
            have H5 := Lib.hid h5
            clear h5 hs5
            go_wp2_with fail
            refine (H5.out.byte hB _ HX4.out hroom _ (congrArg (fun u : UInt8 => (u.toNat : Int)) (hex_get (x.toNat % 16) (by omega)))).mono ?_
            rintro e w6 ⟨rfl, v6, h6, _⟩
            have h7 : DatInv w B b ⟨n, bl, d, ks⟩ (.slice (some ⟨g, off, none⟩) d.length cd) (.slice ak ks.length ck) bs v (((if bl = true then [95] else []) ++ digs n) ++ [58]) (.int .i64 ((j : Int) + 1)) w6 :=
              ⟨j + 1, v6, hlt, rfl, by
                have e := HNX.out
                simp only at e ⊢
                rw [e]
                simpa only [List.append_assoc] using h6⟩
            have H7 := Lib.hid h7
            clear h6 h7
            go_wp2_with fail
            exact ⟨H7.out, by simp [intOf]; omega⟩
          · have hjl : d.take j = d := List.take_of_length_le (by omega)
            have hw2 : WrSt w B b ⟨n, bl, d, ks⟩ (.slice ad d.length cd) (.slice ak ks.length ck) bs v ((if bl = true then [95] else []) ++ digs n ++ dataT d) vj wr := by
              rw [HDT.out]
              simp only at hw
              rw [hjl] at hw
              simpa only [List.append_assoc] using hw
            have HW := Lib.hid hw2
            clear hw hw2 hjl
            go_wp2_with fail
            go_meet
            exact ⟨vj, HW.out⟩
    case rest =>
      obtain ⟨v5, h5⟩ := hcut
      obtain ⟨C0, C1, C2, C3⟩ := h5.cells
      simp only at C0 C1 C2 C3
      have H5 := Lib.hid h5
      clear h5
      by_cases hks : ks = []
      · subst hks
        go_wp2_with fail
        go_end0
        refine ⟨v5, rfl, ?_, H5.out.st⟩
        have h := H5.out.bld
        have e := HX.out
        simp only [↓reduceIte, List.append_nil] at e
        rw [e]
        simpa only [List.append_assoc] using h
      · have hkp : 0 < ks.length := List.length_pos_iff.2 hks
        have hz : ((ks.length : Int) == 0) = false := by rw [beq_eq_false_iff_ne]; omega
        have hx5 : Tr.text ⟨n, bl, d, ks⟩ = ((if bl = true then [95] else []) ++ digs n ++ dataT d) ++ (Tr.texts true ks ++ [41]) := by rw [HX.out, if_neg hks]; simp
        have HX5 := Lib.hid hx5
        have HKS := Lib.hid hks
        clear hx5 hks
        go_wp2_with fail
        go_loopw [48] (fun i wr => KidInv w B b ⟨n, bl, d, ks⟩ (.slice ad d.length cd) (.slice ak ks.length ck) bs v ((if bl = true then [95] else []) ++ digs n ++ dataT d) i wr) (fun i _ => ks.length - (intOf i).toNat)
        case atStart => exact ⟨0, v5, by omega, rfl, by simpa [Tr.texts] using H5.out⟩
        case round =>
          obtain ⟨j, vj, hj, rfl, hw⟩ := hrel
          simp only at hj hw
          by_cases hlt : j < ks.length
          · obtain ⟨_, _, e, _, _, _, hkk⟩ := kids_form HT.out.kids
            simp only [Value.slice.injEq] at e hkk
            obtain ⟨rfl, _, rfl⟩ := e
            obtain ⟨g, off, rfl, hg, hc⟩ := hkk.resolve_left HKS.out
            obtain ⟨dn, kn, c0, c1, c2, c3, htn⟩ := hc j hlt
            rw [← (hw.old HBL.out hB).cell (p := ⟨g, _, none⟩) hg] at c0 c1 c2 c3
            obtain ⟨rest, hsp⟩ := texts_split ks j hlt
            have hnx := texts_next ks j hlt
            have hok2 := Tr.oks_at (by have := HOK.out; rw [Tr.ok] at this; exact this.2.2.2) j hlt
            have hsz : ks[j].size ≤ k := by have := Tr.sizes_at j hlt; rw [Tr.size] at hk; omega
            have hx6 : Tr.text ⟨n, bl, d, ks⟩ = (((if bl = true then [95] else []) ++ digs n ++ dataT d) ++ Tr.texts true (ks.take j)) ++ ([if j = 0 then 40 else 44] ++ (ks[j].text ++ (rest ++ [41]))) := by rw [HX5.out, hsp]; simp
            have hx7 : Tr.text ⟨n, bl, d, ks⟩ = ((((if bl = true then [95] else []) ++ digs n ++ dataT d) ++ Tr.texts true (ks.take j)) ++ [if j = 0 then 40 else 44]) ++ (ks[j].text ++ (rest ++ [41])) := by rw [hx6]; simp
            obtain ⟨dnd, dnc, knd, knc, rfl, rfl, _, _, _, _⟩ := htn.form
            have HW := Lib.hid hw
            have HX6 := Lib.hid hx6
            have HX7 := Lib.hid hx7
            have HNX := Lib.hid hnx
            have HTN := Lib.hid htn
            have HCC := Lib.hid hc
            have HO2 := Lib.hid hok2
            clear hw hx6 hx7 hnx htn hc hok2 hsp hkk
            generalize ks[j] = tn at *
            have hwb : ∀ A, WrSt w B b ⟨n, bl, d, ks⟩ (.slice ad d.length cd) (.slice (some ⟨g, off, none⟩) ks.length ck) bs v (((if bl = true then [95] else []) ++ digs n ++ dataT d) ++ Tr.texts true (ks.take j)) vj (wr.alloc A) := fun A => HW.out.below (below_al (Below.refl _ _) A)
            have HWB := Lib.hid hwb
            clear hwb
            go_upto_region 16 with fail
            go_cut [] (fun wx => ∃ v6, WrSt w B b ⟨n, bl, d, ks⟩ (.slice ad d.length cd) (.slice (some ⟨g, off, none⟩) ks.length ck) bs v ((((if bl = true then [95] else []) ++ digs n ++ dataT d) ++ Tr.texts true (ks.take j)) ++ [if j = 0 then 40 else 44]) v6 wx ∧ wx.heap[wr.heap.size]? = some (.cells #[.int .u64 (tn.num : Int), .bool tn.blank, .slice dnd tn.data.length dnc, .slice knd tn.kids.length knc] 26))
            case first =>
              have hKn : wr.heap.size ≠ b := by have := HW.out.bld.lt; omega
              have hKv : vj.ownBlock ≠ some wr.heap.size := fun e => by have := owned_lt HW.out.bld.own _ e; omega
              have hKl : wr.heap.size < (wr.alloc (.cells #[.int .u64 (tn.num : Int), .bool tn.blank, .slice dnd tn.data.length dnc, .slice knd tn.kids.length knc] 26)).heap.size := by rw [size_al]; omega
              have hKnew := heap_new wr (.cells #[.int .u64 (tn.num : Int), .bool tn.blank, .slice dnd tn.data.length dnc, .slice knd tn.kids.length knc] 26)
              have HKK := Lib.hid (And.intro hKn (And.intro hKv (And.intro hKl hKnew)))
              clear hKn hKv hKl hKnew
              by_cases h1j : 1 < j
              · have hm2 : (1 : Int) < (j : Int) := by omega
                go_wp2_with fail
                refine ((HWB.out _).byte hB (if j = 0 then 40 else 44) HX6.out hroom 44 (by rw [if_neg (by omega)]; rfl)).mono ?_
                rintro e w6 ⟨rfl, v6, h6, hs6⟩
                have H6 := Lib.hid (And.intro h6 ((hs6.block _ HKK.out.2.2.1 HKK.out.1 HKK.out.2.1).1.trans HKK.out.2.2.2))
                clear h6 hs6
                go_wp2_with fail
                go_meet
                exact ⟨v6, H6.out⟩
              · have hm2 : ¬ (1 : Int) < (j : Int) := by omega
                have hm3 : (j : Int) < 2 := by omega
                have hm4 : j < 2 := by omega
                go_wp2_with fail
                refine ((HWB.out _).byte hB (if j = 0 then 40 else 44) HX6.out hroom _ ?_).mono ?_
                · have : j = 0 ∨ j = 1 := by omega
                  rcases this with rfl | rfl <;> rfl
                rintro e w6 ⟨rfl, v6, h6, hs6⟩
                have H6 := Lib.hid (And.intro h6 ((hs6.block _ HKK.out.2.2.1 HKK.out.1 HKK.out.2.1).1.trans HKK.out.2.2.2))
                clear h6 hs6
                go_wp2_with fail
                go_meet
                exact ⟨v6, H6.out⟩
            case rest =>
              obtain ⟨v6, h6, hK⟩ := hcut
              have K0 := cell_of_heap (j := 0) hK
              have K1 := cell_of_heap (j := 1) hK
              have K2 := cell_of_heap (j := 2) hK
              have K3 := cell_of_heap (j := 3) hK
              simp only [List.getElem?_toArray, List.getElem?_cons_succ, List.getElem?_cons_zero] at K0 K1 K2 K3
              have H6 := Lib.hid h6
              clear h6 hK
              go_wp2_with fail
              refine (IH.out tn _ _ B b _ v6 _ hsz HO2.out H6.out.bld (H6.out.room hB) ?_ ?_).mono ?_
              · exact HTN.out.below (H6.out.old HBL.out hB)
              · exact room_of HX7.out hroom
              rintro e w7 ⟨v7, rfl, g1, g2⟩
              have h7 : KidInv w B b ⟨n, bl, d, ks⟩ (.slice ad d.length cd) (.slice (some ⟨g, off, none⟩) ks.length ck) bs v ((if bl = true then [95] else []) ++ digs n ++ dataT d) (.int .i64 ((j : Int) + 1)) w7 :=
                ⟨j + 1, v7, hlt, rfl, by
                  have h := H6.out.wrote g1 g2
                  have e := HNX.out
                  simp only at e ⊢
                  rw [e]
                  simpa only [List.append_assoc] using h⟩
              have H7 := Lib.hid h7
              clear g1 g2 h7
              go_wp2_with fail
              exact ⟨H7.out, by simp [intOf]; omega⟩
          · have hjl : ks.take j = ks := List.take_of_length_le (by omega)
            rw [hjl] at hw
            have hx8 : Tr.text ⟨n, bl, d, ks⟩ = (((if bl = true then [95] else []) ++ digs n ++ dataT d) ++ Tr.texts true ks) ++ ([41] ++ []) := by rw [HX5.out]; simp
            have HW := Lib.hid hw
            have HX8 := Lib.hid hx8
            clear hw hjl hx8
            go_wp2_with fail
            refine (HW.out.byte hB 41 HX8.out hroom 41 rfl).mono ?_
            rintro e w8 ⟨rfl, v8, h8, _⟩
            have H8 := Lib.hid h8
            clear h8
            go_wp2_with fail
            go_end0
            refine ⟨v8, rfl, ?_, H8.out.st⟩
            have h := H8.out.bld
            rw [HX8.out, List.append_nil]
            exact h
theorem write_said : ∀ k, WriteSaid k
  | 0 => fun t _ _ _ _ _ _ _ h => by have := t.size_pos; omega
  | k + 1 => write_step k (write_said k)
end Go.Proofs.Ytdogiobppeemiaa
