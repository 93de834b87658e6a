/- strings.Builder's copyCheck, WriteByte, WriteString: walks, with all that they leave alone. -/
import Derived.Test.YtdogiobppeemiaaTb
import Derived.Deep.AppendLies
import Derived.Lib.Builder
import Derived.Lib.AppendStr
import Derived.Lib.Strings
import Derived.Laws.Externs
import Derived.Shelf.Strings.BuilderX
namespace Go.Proofs.Ytdogiobppeemiaa
set_option linter.unusedSimpArgs false
set_option linter.unusedVariables false
set_option linter.unnecessarySimpa false
open Go.RowKit

/-- A builder at block b: its buffer v holds the bytes bs. -/
structure Bld (B b : Nat) (bs : List Value) (v : Value) (w : World) : Prop where
  hB : B ≤ b
  at_ : ∃ p, (p = .pointer none ∨ p = .pointer (some ⟨b, 0, none⟩)) ∧ w.heap[b]? = some (.cells #[p, v] 57 (0, 0))
  own : w.ownsRow B 5 1 v bs.length bs
  ne : v.ownBlock ≠ some b
theorem Bld.lt {B b : Nat} {bs : List Value} {v : Value} {w : World} (h : Bld B b bs v w) : b < w.heap.size := by
  obtain ⟨p, _, hb⟩ := h.at_
  rcases Nat.lt_or_ge b w.heap.size with h' | h'
  · exact h'
  · simp [Array.getElem?_eq_none h'] at hb
/-- What a builder's call leaves alone. -/
structure Bst (b : Nat) (v v' : Value) (w w' : World) : Prop where
  os : w'.os = w.os
  tape : w'.tape = w.tape
  output : w'.output = w.output
  size : w.heap.size ≤ w'.heap.size
  block : ∀ k, k < w.heap.size → k ≠ b → v.ownBlock ≠ some k → w'.heap[k]? = w.heap[k]? ∧ v'.ownBlock ≠ some k
theorem Bst.refl (b : Nat) (v : Value) (w : World) : Bst b v v w w := ⟨rfl, rfl, rfl, Nat.le_refl _, fun _ _ _ h => ⟨rfl, h⟩⟩
theorem Bst.trans {b : Nat} {v v' v'' : Value} {w w' w'' : World} (h : Bst b v v' w w') (k : Bst b v' v'' w' w'') : Bst b v v'' w w'' :=
  ⟨k.os.trans h.os, k.tape.trans h.tape, k.output.trans h.output, Nat.le_trans h.size k.size, fun i hi hb hv => by
    obtain ⟨h1, h2⟩ := h.block i hi hb hv
    obtain ⟨h3, h4⟩ := k.block i (Nat.lt_of_lt_of_le hi h.size) hb h2
    exact ⟨h3.trans h1, h4⟩⟩
theorem Bst.of_below {b : Nat} {v : Value} {w w' : World} (h : Below w.heap.size w w') : Bst b v v w w' := ⟨h.os, h.tape, h.output, h.size, fun k hk _ hv => ⟨h.block k hk, hv⟩⟩
theorem Bst.below {B b : Nat} {bs : List Value} {v v' : Value} {w w' : World} (h : Bst b v v' w w') (hb : Bld B b bs v w) (hB : B ≤ w.heap.size) : Below B w w' :=
  ⟨h.os, h.tape, h.output, h.size, fun k hk => (h.block k (by omega) (by have := hb.hB; omega) (fun e => by have := owned_lt hb.own k e; omega)).1⟩
theorem Bld.below {B b : Nat} {bs : List Value} {v : Value} {w w' : World} (h : Bld B b bs v w) (hb : Below w.heap.size w w') : Bld B b bs v w' := by
  obtain ⟨p, hp, hh⟩ := h.at_
  exact ⟨h.hB, ⟨p, hp, (hb.block b h.lt).trans hh⟩, owned_kept h.own (Nat.le_refl _) (fun g hg => hb.block g (owned_lt h.own g hg).2), h.ne⟩

theorem info_bld : (Try.prog.info? 57).map (·.size) = some 2 := by kernel_rfl
theorem lies_bld : liesAt Try.prog Try.prog.depth 57 (2 / Try.prog.cellsOf 57) 0 57 1 = true := by kernel_rfl

/-- The builder's first cell set to its own address. -/
theorem Bld.used {B b : Nat} {bs : List Value} {v : Value} {w : World} (h : Bld B b bs v w) : Bld B b bs v (w.setCell ⟨b, 0, none⟩ (.pointer (some ⟨b, 0, none⟩))) := by
  obtain ⟨p, hp, hh⟩ := h.at_
  refine ⟨h.hB, ⟨_, .inr rfl, ?_⟩, owned_kept h.own (Nat.le_refl _) (fun g hg => heap_setCell_ne (fun e => h.ne (by rw [hg, e]))), h.ne⟩
  simp [World.setCell, Array.getElem?_modify, hh]

set_option maxHeartbeats 1000000 in
set_option maxRecDepth 100000 in
theorem copyCheck_any (B b : Nat) (bs : List Value) (v : Value) (w : World) (h : Bld B b bs v w) :
    Calls Try.prog 41 #[.pointer (some ⟨b, 0, none⟩)] w fun e w' => e = .returned (.tuple #[]) ∧ Bld B b bs v w' ∧ w'.heap[b]? = some (.cells #[.pointer (some ⟨b, 0, none⟩), v] 57 (0, 0)) ∧ Bst b v v w w' := by
  obtain ⟨j, hj, hjs⟩ := Option.map_eq_some_iff.1 info_bld
  obtain ⟨p, hp, hh⟩ := h.at_
  have h0 := cell_of_heap (j := 0) hh
  have hf := free_of_heap (j := 0) hh
  have hsh : w.shape? b = some (57, 2) := by simp [World.shape?, hh]
  simp only [List.getElem?_toArray, List.getElem?_cons_zero] at h0
  have H := Lib.hid h
  have HH := Lib.hid hh
  clear h hh
  rcases hp with rfl | rfl
  · go_enter Try.func41, Try.ntmps41
    go_wp2
    rw [Lib.run_to_unsafe w ⟨b, 0, none⟩ Try.underlying55 Try.underlying79 hj (by rw [hjs]; decide) hsh (Nat.zero_lt_succ 1)]
    simp only [Result.andThen]
    rw [Oper.upon_value]
    go_wp2
    rw [run_callFunc_extern Try.func45 (by kernel_rfl) (by kernel_rfl) (by kernel_rfl) (e := Extern.AbiNoEscape.same) (by kernel_rfl)]
    rw [Lib.run_noEscape]
    simp only [Result.andThen]
    rw [Oper.upon_value]
    go_wp2
    rw [Lib.run_from_unsafe w ⟨b, 0, none⟩ Try.underlying79 Try.underlying55 hj hsh lies_bld]
    simp only [Result.andThen]
    rw [Oper.upon_value]
    go_wp2
    go_end0
    refine ⟨rfl, H.out.used, ?_, ?_⟩
    · simp [World.setCell, Array.getElem?_modify, HH.out]
    · exact ⟨rfl, rfl, rfl, by simp [World.setCell], fun k _ hk hv => ⟨heap_setCell_ne hk, hv⟩⟩
  · go_enter Try.func41, Try.ntmps41
    go_wp2
    rw [Lib.run_neq_ptr_same w _ Try.underlying55 hj]
    go_wp2
    go_end0
    exact ⟨rfl, H.out, HH.out, Bst.refl _ _ _⟩

/-- What a write leaves. -/
def Wrote (B b : Nat) (bs : List Value) (v : Value) (ret : Value) (w : World) (e : Ending) (w' : World) : Prop :=
  ∃ v', e = .returned ret ∧ Bld B b bs v' w' ∧ Bst b v v' w w'

/-- Behind an append: the buffer's slice is stored. -/
theorem Bld.put {B b : Nat} {bs bs' : List Value} {v v' p : Value} {w w1 w2 : World} (h : Bld B b bs v w) (hp : p = .pointer none ∨ p = .pointer (some ⟨b, 0, none⟩)) (hh : w.heap[b]? = some (.cells #[p, v] 57 (0, 0)))
    (h1 : Below w.heap.size w w1) (hg : w1.grownBy w2 v.ownBlock) (hown : w2.ownsRow B 5 1 v' bs'.length bs') (hb : v'.ownBlock = v.ownBlock ∨ v'.ownBlock = some w1.heap.size) :
    Bld B b bs' v' (w2.setCell ⟨b, 1, none⟩ v') ∧ Bst b v v' w (w2.setCell ⟨b, 1, none⟩ v') := by
  have hl := h.lt
  have hs := h1.size
  have hs2 := hg.size
  have hne : v'.ownBlock ≠ some b := by
    rcases hb with e | e
    · rw [e]; exact h.ne
    · rw [e]; intro e; simp only [Option.some.injEq] at e; omega
  have hh2 : w2.heap[b]? = some (.cells #[p, v] 57 (0, 0)) := (hg.block b (by omega) (fun e => h.ne e.symm)).trans ((h1.block b hl).trans hh)
  refine ⟨⟨h.hB, ⟨p, hp, by simp [World.setCell, Array.getElem?_modify, hh2]⟩, owned_kept hown (Nat.le_refl _) (fun g hg' => heap_setCell_ne (fun e => hne (by rw [hg', e]))), hne⟩, hg.os.trans h1.os, hg.tape.trans h1.tape, hg.output.trans h1.output, by simp [World.setCell]; omega, fun k hk hkb hv => ⟨?_, ?_⟩⟩
  · rw [heap_setCell_ne hkb, hg.block k (by omega) (fun e => hv e.symm), h1.block k hk]
  · rcases hb with e | e
    · rw [e]; exact hv
    · rw [e]; intro e; simp only [Option.some.injEq] at e; omega

set_option maxHeartbeats 1000000 in
theorem writeByte_any (B b : Nat) (bs : List Value) (v : Value) (c : Int) (w : World) (h : Bld B b bs v w) (hlen : bs.length + 1 ≤ 140737488355328) (hBw : B ≤ w.heap.size) :
    Calls Try.prog 36 #[.pointer (some ⟨b, 0, none⟩), .int .u8 c] w (Wrote B b (bs ++ [.int .u8 c]) v .nilIface w) := by
  obtain ⟨i0, hi, hz0, hz1, hz2⟩ := info_parts info_u8
  have HH := Lib.hid h
  clear h
  go_enter Try.func36, Try.ntmps36
  go_wp2_with fail
  refine (copyCheck_any B b bs v w HH.out).mono ?_
  rintro e w1 ⟨rfl, h1, hk1, hs1⟩
  have c1 := cell_of_heap (j := 1) hk1
  simp only [List.getElem?_toArray, List.getElem?_cons_succ, List.getElem?_cons_zero] at c1
  have hown : ∀ o, (w1.alloc o).ownsRow B 5 1 v bs.length bs := fun o => owned_kept h1.own (Nat.le_refl _) (fun g hg => heap_old o (owned_lt h1.own g hg).2)
  have hnews : ∀ j u, ([.int .u8 c] : List Value)[j]? = some u → (w1.alloc (.cells #[.int .u8 c] 5)).cell? ((⟨w1.heap.size, 0, none⟩ : Addr).add j) = some u := World.news_of_block (heap_new w1 (.cells #[.int .u8 c] 5))
  have hone : ∀ u ∈ ([.int .u8 c] : List Value), u.oneCell' = true := by intro u hu; simp at hu; subst hu; rfl
  have hc1 : bs.length + 1 ≤ maxLen := by unfold maxLen; omega
  have hc2 : (bs.length + 1) * 1 ≤ 140737488355328 := by omega
  have hc3 : ∀ o, B ≤ (w1.alloc o).heap.size := fun o => by rw [size_al]; have := hs1.size; omega
  have hb2 : ∀ w2 o, (w1.alloc o).grownBy w2 v.ownBlock → w2.heap[b]? = some (.cells #[.pointer (some ⟨b, 0, none⟩), v] 57 (0, 0)) := fun w2 o hg => (hg.block b (by rw [size_al]; have := h1.lt; omega) (fun e => h1.ne e.symm)).trans ((heap_old o h1.lt).trans hk1)
  have H1 := Lib.hid h1
  have HK := Lib.hid hk1
  have HS := Lib.hid hs1
  clear h1 hk1 hs1
  go_wp2_with (at_builtin; (refine wpList_append_own_at _ (by rfl) _ _ 23 (by rfl) B 5 i0 (.int .u8 0) 1 1 Try.underlying23 hi hz0 hz1 hz2 rfl (by decide) v bs.length bs (by rfl) (hown _) ⟨w1.heap.size, 0, none⟩ 1 1 [.int .u8 c] (by rfl) rfl hnews hone hc1 hc2 (hc3 _) ?_); intro v' w2 hown' hgrow _ hblk; have d1 := cell_of_heap (j := 1) (hb2 w2 _ hgrow); have f1 := free_of_heap (j := 1) (hb2 w2 _ hgrow); obtain ⟨va, vc, rfl⟩ := owned_form hown'; simp only [List.getElem?_toArray, List.getElem?_cons_succ, List.getElem?_cons_zero] at d1)
  go_ret
  obtain ⟨g1, g2⟩ := H1.out.put (bs' := bs ++ [.int .u8 c]) (.inr rfl) HK.out (below_al (Below.refl _ _) _) hgrow (by simpa using hown') hblk
  exact ⟨_, rfl, g1, HS.out.trans g2⟩

/-- append(buf, s...): where the new slice lies. -/
theorem append_str_at {P : Program} (w : World) (base : Nat) (t u ty e : TypeId) (i : TypeInfo) (ht : P.underlying t = some (.slice e)) (hu : P.underlying u = some .string) (hi : P.info? e = some i) (hz : i.zero = some (.int .u8 0)) (hsize : i.size = 1) (hby : i.bytes = 1)
    (v : Value) (n : Nat) (xs : List Value) (hown : w.ownsRow base e 1 v n xs) (s : ByteArray) (h63 : n + s.size ≤ maxLen) (hbytes : n + s.size ≤ 140737488355328) (hbase : base ≤ w.heap.size) :
    ∃ v' w', (Builtin.append_ #[t, u] ty #[v, .string s]).run P w = .ok v' w' ∧ w'.ownsRow base e 1 v' (n + s.size) (xs ++ Lib.strCells s) ∧ w.grownBy w' v.ownBlock ∧ (v'.ownBlock = v.ownBlock ∨ v'.ownBlock = some w.heap.size) := by
  obtain ⟨v', w', hr, h2, h3, h4⟩ := Lib.run_append_own_string (P := P) w base t u ty e i ht hu hi hz hsize hby v n xs hown s h63 hbytes hbase
  refine ⟨v', w', hr, h2, h3, ?_⟩
  have hsm : n + s.size ≤ 9223372036854775807 := by simp only [maxLen] at h63; omega
  rcases hown.2 with ⟨rfl, rfl⟩ | ⟨g, cap, cur, rfl, hbg, hg, hnc, hcm, hcs, htake⟩
  · by_cases hm : s.size = 0
    · rw [h4.2 ⟨rfl, hm⟩]; exact .inl rfl
    · have hr2 := run_append_nil_string (P := P) w t u ty e i (.int .u8 0) ht hu hi hz s (by omega) (by omega) (by rw [hby]; omega)
      rw [hr] at hr2
      injection hr2 with e1 _
      rw [e1]; exact .inr rfl
  · by_cases hroom : n + s.size ≤ cap
    · have hr2 := Lib.run_append_room_string (P := P) w t u ty e i ht hu hi hsize g n cap cur hg s hroom (by simp at hcs; omega)
      rw [hr] at hr2
      injection hr2 with e1 _
      rw [e1]; exact .inl rfl
    · have hxl : xs.length = n := by simpa using hown.1
      have holds : ∀ j u, xs[j]? = some u → w.cell? ((⟨g, 0, none⟩ : Addr).add j) = some u := hown.cells (g := g) rfl
      have hr2 := Lib.run_append_grow_string (P := P) w t u ty e i (.int .u8 0) ht hu hi hz ⟨g, 0, none⟩ n cap xs (by rw [hsize]; simpa using hxl) holds s (by omega) (by omega) (by rw [hby]; exact growslice_fits (by omega) (by omega))
      rw [hr] at hr2
      injection hr2 with e1 _
      rw [e1]; exact .inr rfl
theorem wpList_append_str_at {P : Program} (w : World) {ops : Array Oper} {rest : List Oper} {o : Oper} {a : Act} {Q : Exit → Act → World → Prop} (hgd : o.guard = none) (sl x : Operand) (t u : TypeId)
    (ho : o.op = .call { callee := .builtin .append, args := #[sl, x], argTypes := #[t, u] })
    (base : Nat) (e : TypeId) (i : TypeInfo) (ht : P.underlying t = some (.slice e)) (hu : P.underlying u = some .string) (hi : P.info? e = some i) (hz : i.zero = some (.int .u8 0)) (hsize : i.size = 1) (hby : i.bytes = 1)
    (v : Value) (n : Nat) (xs : List Value) (hs : a.eval sl = v) (hown : w.ownsRow base e 1 v n xs) (s : ByteArray) (hx : a.eval x = .string s) (h63 : n + s.size ≤ maxLen) (hbytes : n + s.size ≤ 140737488355328) (hbase : base ≤ w.heap.size)
    (h : ∀ v' w', w'.ownsRow base e 1 v' (n + s.size) (xs ++ Lib.strCells s) → w.grownBy w' v.ownBlock → (v'.ownBlock = v.ownBlock ∨ v'.ownBlock = some w.heap.size) → wpList P ops Q rest (a.put o.dst v') w') : wpList P ops Q (o :: rest) a w := by
  refine wpList_plain hgd fun K hK => ?_
  obtain ⟨v', w', hr, h2, h3, h4⟩ := append_str_at (P := P) w base t u o.type e i ht hu hi hz hsize hby v n xs hown s h63 hbytes hbase
  unfold Oper.wp execOp
  simp only [ho, resolve, invoke, builtin, Sem.run_bind, Sem.run_pure, Result.andThen_ok, List.map_toArray, List.map_cons, List.map_nil, hs, hx, hr]
  exact hK _ _ (h v' w' h2 h3 h4)

set_option maxHeartbeats 1000000 in
theorem writeString_any (B b : Nat) (bs : List Value) (v : Value) (s : ByteArray) (w : World) (h : Bld B b bs v w) (hlen : bs.length + s.size ≤ 140737488355328) (hBw : B ≤ w.heap.size) :
    Calls Try.prog 37 #[.pointer (some ⟨b, 0, none⟩), .string s] w (Wrote B b (bs ++ Lib.strCells s) v (.tuple #[.int .i64 s.size, .nilIface]) w) := by
  obtain ⟨i0, hi, hz0, hz1, hz2⟩ := info_parts info_u8
  have HH := Lib.hid h
  clear h
  go_enter Try.func37, Try.ntmps37
  go_wp2_with fail
  refine (copyCheck_any B b bs v w HH.out).mono ?_
  rintro e w1 ⟨rfl, h1, hk1, hs1⟩
  have c1 := cell_of_heap (j := 1) hk1
  simp only [List.getElem?_toArray, List.getElem?_cons_succ, List.getElem?_cons_zero] at c1
  have hown := h1.own
  have hc1 : bs.length + s.size ≤ maxLen := by unfold maxLen; omega
  have hc3 : B ≤ w1.heap.size := by have := hs1.size; omega
  have hb2 : ∀ w2, w1.grownBy w2 v.ownBlock → w2.heap[b]? = some (.cells #[.pointer (some ⟨b, 0, none⟩), v] 57 (0, 0)) := fun w2 hg => (hg.block b h1.lt (fun e => h1.ne e.symm)).trans hk1
  have H1 := Lib.hid h1
  have HK := Lib.hid hk1
  have HS := Lib.hid hs1
  clear h1 hk1 hs1
  go_wp2_with (at_builtin; (refine wpList_append_str_at _ (by rfl) _ _ 23 9 (by rfl) B 5 i0 Try.underlying23 Try.underlying9 hi hz0 hz1 hz2 v bs.length bs (by rfl) hown s (by rfl) hc1 hlen hc3 ?_); intro v' w2 hown' hgrow hblk; have d1 := cell_of_heap (j := 1) (hb2 w2 hgrow); have f1 := free_of_heap (j := 1) (hb2 w2 hgrow); obtain ⟨va, vc, rfl⟩ := owned_form hown'; simp only [List.getElem?_toArray, List.getElem?_cons_succ, List.getElem?_cons_zero] at d1)
  go_ret2
  obtain ⟨g1, g2⟩ := H1.out.put (bs' := bs ++ Lib.strCells s) (.inr rfl) HK.out (Below.refl _ _) hgrow (by simpa [Lib.strCells_length] using hown') hblk
  exact ⟨_, rfl, g1, HS.out.trans g2⟩
end Go.Proofs.Ytdogiobppeemiaa
