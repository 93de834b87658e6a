/- The reader's tree: the state of its walk. -/
import Derived.Test.YtdogiobppeemiaaPr
namespace Go.Proofs.Ytdogiobppeemiaa
set_option linter.unusedSimpArgs false
set_option linter.unusedVariables false
set_option linter.unnecessarySimpa false
open Go.RowKit

theorem Kept.more {L : Nat} {w a b : World} (h : Kept L w a) (k : Below w.heap.size a b) : Kept L w b :=
  ⟨k.os.trans h.os, k.tape.trans h.tape, k.output.trans h.output, Nat.le_trans h.size k.size, fun i hi hn => (k.block i hi).trans (h.block i hi hn)⟩
theorem Kept.up {L : Nat} {w a b : World} (h : Kept L w a) (k : Below a.heap.size a b) : Kept L w b := h.more (k.mono h.size)

structure RdSt (L : Nat) (w : World) (num : Nat) (bl : Bool) (d : List UInt8) (O : Nat) (dv kv : Value) (ks : List Tr) (kxs : List Value) (wx : World) : Prop where
  kept : Kept L w wx
  Llt : L < w.heap.size
  O1 : w.heap.size + 1 ≤ O
  Olt : O < wx.heap.size
  out : wx.heap[O]? = some (.cells #[.int .u64 (num : Int), .bool bl, dv, kv] 26 (0, 0))
  res : wx.heap[w.heap.size]? = some (.cells #[.int .u64 0, .bool false, .slice none 0 0, .slice none 0 0] 26 (0, 0))
  data : wx.ownsRow (w.heap.size + 1) 5 1 dv d.length (d.map byteV)
  kids : wx.ownsRow (w.heap.size + 1) 26 4 kv ks.length kxs
  dO : dv.ownBlock ≠ some O
  kO : kv.ownBlock ≠ some O
  apart : ∀ g, dv.ownBlock = some g → kv.ownBlock ≠ some g
  parts : C.reps (fun b => w.heap.size + 1 ≤ b ∧ b < wx.heap.size ∧ b ≠ O ∧ dv.ownBlock ≠ some b ∧ kv.ownBlock ≠ some b) wx (Tr.cs ks) kxs

/-- Only the reader's block has changed. -/
theorem RdSt.kept' {L : Nat} {w wr w2 : World} {num : Nat} {bl : Bool} {d : List UInt8} {O : Nat} {dv kv : Value} {ks : List Tr} {kxs : List Value} (h : RdSt L w num bl d O dv kv ks kxs wr) (h2 : Kept L wr w2) : RdSt L w num bl d O dv kv ks kxs w2 := by
  have s2 := h2.size
  have hL := h.Llt
  have hO1 := h.O1
  have hO := h.Olt
  have hs := h.kept.size
  have hkg : ∀ g, kv.ownBlock = some g → w.heap.size + 1 ≤ g ∧ g < wr.heap.size := fun g hg => owned_lt h.kids g hg
  have hdg : ∀ g, dv.ownBlock = some g → w.heap.size + 1 ≤ g ∧ g < wr.heap.size := fun g hg => owned_lt h.data g hg
  refine ⟨⟨h2.os.trans h.kept.os, h2.tape.trans h.kept.tape, h2.output.trans h.kept.output, by omega, fun k hk hn => (h2.block k (by omega) hn).trans (h.kept.block k hk hn)⟩, hL, hO1, by omega, (h2.block _ hO (by omega)).trans h.out, (h2.block _ (by omega) (by omega)).trans h.res, ?_, ?_, h.dO, h.kO, h.apart, ?_⟩
  · exact owned_kept h.data (Nat.le_refl _) (fun g hg => by have := hdg g hg; exact h2.block g this.2 (by omega))
  · exact owned_kept h.kids (Nat.le_refl _) (fun g hg => by have := hkg g hg; exact h2.block g this.2 (by omega))
  · refine C.reps_mono (fun b hb => ⟨hb.1, by have := hb.2.1; omega, hb.2.2⟩) (fun b hb => h2.block b hb.2.1 (by omega)) _ _ h.parts

theorem RdSt.start {L : Nat} {w wx : World} {num : Nat} {bl : Bool} {O : Nat} (hb : Kept L w wx) (hL : L < w.heap.size) (O1 : w.heap.size + 1 ≤ O) (Olt : O < wx.heap.size)
    (out : wx.heap[O]? = some (.cells #[.int .u64 (num : Int), .bool bl, .slice none 0 0, .slice none 0 0] 26 (0, 0)))
    (res : wx.heap[w.heap.size]? = some (.cells #[.int .u64 0, .bool false, .slice none 0 0, .slice none 0 0] 26 (0, 0))) : RdSt L w num bl [] O (.slice none 0 0) (.slice none 0 0) [] [] wx :=
  ⟨hb, hL, O1, Olt, out, res, World.ownsRow_nil _ _ _ _, World.ownsRow_nil _ _ _ _, by simp [Value.ownBlock], by simp [Value.ownBlock], fun _ _ => by simp [Value.ownBlock], by rw [Tr.cs]; trivial⟩

/-- One byte of data more. -/
theorem RdSt.byte {L : Nat} {w wr w3 w4 : World} {num : Nat} {bl : Bool} {d : List UInt8} {x : UInt8} {O : Nat} {dv kv v' : Value} {ks : List Tr} {kxs : List Value} (h : RdSt L w num bl d O dv kv ks kxs wr) (h3 : Below wr.heap.size wr w3)
    (h4 : w3.grownBy w4 dv.ownBlock) (hv : w4.ownsRow (w.heap.size + 1) 5 1 v' (d.length + 1) (d.map byteV ++ [byteV x])) (hb : v'.ownBlock = dv.ownBlock ∨ v'.ownBlock = some w3.heap.size) :
    RdSt L w num bl (d ++ [x]) O v' kv ks kxs (w4.setCell ⟨O, 2, none⟩ v') := by
  have s3 := h3.size
  have s4 := h4.size
  have sO := h.Olt
  have hL := h.Llt
  have hO1 := h.O1
  have hs := h.kept.size
  have er4 : ∀ b, b < wr.heap.size → dv.ownBlock ≠ some b → w4.heap[b]? = wr.heap[b]? := fun b h1 hn => (h4.block b (by omega) (fun e => hn e.symm)).trans (h3.block b h1)
  have hO4 : w4.heap[O]? = some (.cells #[.int .u64 (num : Int), .bool bl, dv, kv] 26 (0, 0)) := (er4 O sO h.dO).trans h.out
  have hkg : ∀ g, kv.ownBlock = some g → w.heap.size + 1 ≤ g ∧ g < wr.heap.size := fun g hg => owned_lt h.kids g hg
  have hdg : ∀ g, dv.ownBlock = some g → w.heap.size + 1 ≤ g ∧ g < wr.heap.size := fun g hg => owned_lt h.data g hg
  have hv'O : v'.ownBlock ≠ some O := by
    rcases hb with e | e
    · rw [e]; exact h.dO
    · rw [e]; intro e; simp only [Option.some.injEq] at e; omega
  have hsz : (w4.setCell ⟨O, 2, none⟩ v').heap.size = w4.heap.size := by simp [World.setCell]
  refine ⟨?_, hL, hO1, by rw [hsz]; omega, ?_, ?_, ?_, ?_, hv'O, h.kO, ?_, ?_⟩
  · exact (h.kept.up h3).more (((Below.refl _ _).grown h4 (by omega) (fun g hg => by have := hdg g hg; omega)).setCell (by show w.heap.size ≤ O; omega) _)
  · simp [World.setCell, Array.getElem?_modify, hO4]
  · rw [heap_setCell_ne (by omega), er4 _ (by omega) (fun e => by have := hdg _ e; omega)]; exact h.res
  · have := owned_kept hv (Nat.le_refl _) (w' := w4.setCell ⟨O, 2, none⟩ v') (fun g hg => by rw [heap_setCell_ne (fun e => hv'O (by rw [hg, e]))])
    simpa using this
  · exact owned_kept h.kids (Nat.le_refl _) (fun g hg => by
      have := hkg g hg
      rw [heap_setCell_ne (fun e => h.kO (by rw [hg, e])), er4 g (by omega) (fun e => h.apart g e hg)])
  · intro g hg e
    rcases hb with h' | h'
    · rw [h'] at hg; exact h.apart g hg e
    · rw [h'] at hg; simp only [Option.some.injEq] at hg; have := hkg g e; omega
  · refine C.reps_mono (fun b hb' => ?_) (fun b hb' => ?_) _ _ h.parts
    · obtain ⟨q1, q2, q3, q4, q5⟩ := hb'
      refine ⟨q1, by rw [hsz]; omega, q3, fun e => ?_, q5⟩
      rcases hb with h' | h'
      · rw [h'] at e; exact q4 e
      · rw [h'] at e; simp only [Option.some.injEq] at e; omega
    · obtain ⟨q1, q2, q3, q4, q5⟩ := hb'
      rw [heap_setCell_ne q3, er4 b q2 q4]

/-- One part more. -/
theorem RdSt.kid {L : Nat} {w wr w2 w3 w4 : World} {num : Nat} {bl : Bool} {d : List UInt8} {k : Tr} {O : Nat} {dv kv v' dv' kv' : Value} {ks : List Tr} {kxs kxs' : List Value} (h : RdSt L w num bl d O dv kv ks kxs wr)
    (B' : Nat) (hB' : wr.heap.size ≤ B') (h2 : Kept L wr w2) (hown : Owned B' k dv' kv' kxs' w2) (h3 : Below w2.heap.size w2 w3)
    (h4 : w3.grownBy w4 kv.ownBlock) (hv : w4.ownsRow (w.heap.size + 1) 26 4 v' (ks.length + 1) (kxs ++ [.int .u64 (k.num : Int), .bool k.blank, dv', kv'])) (hb : v'.ownBlock = kv.ownBlock ∨ v'.ownBlock = some w3.heap.size) :
    RdSt L w num bl d O dv v' (ks ++ [k]) (kxs ++ [.int .u64 (k.num : Int), .bool k.blank, dv', kv']) (w4.setCell ⟨O, 3, none⟩ v') := by
  have s2 := h2.size
  have s3 := h3.size
  have s4 := h4.size
  have sO := h.Olt
  have hL := h.Llt
  have hO1 := h.O1
  have hs := h.kept.size
  have e24 : ∀ b, b < w2.heap.size → kv.ownBlock ≠ some b → w4.heap[b]? = w2.heap[b]? := fun b h1 hn => (h4.block b (by omega) (fun e => hn e.symm)).trans (h3.block b h1)
  have er4 : ∀ b, b < wr.heap.size → b ≠ L → kv.ownBlock ≠ some b → w4.heap[b]? = wr.heap[b]? := fun b h1 hl hn => (e24 b (by omega) hn).trans (h2.block b h1 hl)
  have hO4 : w4.heap[O]? = some (.cells #[.int .u64 (num : Int), .bool bl, dv, kv] 26 (0, 0)) := (er4 O sO (by omega) h.kO).trans h.out
  have hkg : ∀ g, kv.ownBlock = some g → w.heap.size + 1 ≤ g ∧ g < wr.heap.size := fun g hg => owned_lt h.kids g hg
  have hdg : ∀ g, dv.ownBlock = some g → w.heap.size + 1 ≤ g ∧ g < wr.heap.size := fun g hg => owned_lt h.data g hg
  have hv'O : v'.ownBlock ≠ some O := by
    rcases hb with e | e
    · rw [e]; exact h.kO
    · rw [e]; intro e; simp only [Option.some.injEq] at e; omega
  have hsz : (w4.setCell ⟨O, 3, none⟩ v').heap.size = w4.heap.size := by simp [World.setCell]
  have hw3 : Kept L w w3 := (h.kept.trans h2).up h3
  refine ⟨?_, hL, hO1, by rw [hsz]; omega, ?_, ?_, ?_, ?_, h.dO, hv'O, ?_, ?_⟩
  · exact hw3.more (((Below.refl _ _).grown h4 hw3.size (fun g hg => by have := hkg g hg; omega)).setCell (by show w.heap.size ≤ O; omega) _)
  · simp [World.setCell, Array.getElem?_modify, hO4]
  · rw [heap_setCell_ne (by omega), er4 _ (by omega) (by omega) (fun e => by have := hkg _ e; omega)]; exact h.res
  · exact owned_kept h.data (Nat.le_refl _) (fun g hg => by
      have := hdg g hg
      rw [heap_setCell_ne (fun e => h.dO (by rw [hg, e])), er4 g (by omega) (by omega) (h.apart g hg)])
  · have := owned_kept hv (Nat.le_refl _) (w' := w4.setCell ⟨O, 3, none⟩ v') (fun g hg => by rw [heap_setCell_ne (fun e => hv'O (by rw [hg, e]))])
    simpa using this
  · intro g hg e
    rcases hb with h' | h'
    · rw [h'] at e; exact h.apart g hg e
    · rw [h'] at e; simp only [Option.some.injEq] at e; have := hdg g hg; omega
  · rw [Tr.cs_append, Tr.cs_one]
    refine C.reps_append ?_ ?_
    · refine C.reps_mono (fun b hb' => ?_) (fun b hb' => ?_) _ _ h.parts
      · obtain ⟨q1, q2, q3, q4, q5⟩ := hb'
        refine ⟨q1, by rw [hsz]; omega, q3, q4, fun e => ?_⟩
        rcases hb with h' | h'
        · rw [h'] at e; exact q5 e
        · rw [h'] at e; simp only [Option.some.injEq] at e; omega
      · obtain ⟨q1, q2, q3, q4, q5⟩ := hb'
        rw [heap_setCell_ne q3, er4 b q2 (by omega) q5]
    · refine C.reps_mono (fun b hb' => ?_) (fun b hb' => ?_) _ _ hown.tree.reps
      · obtain ⟨q1, q2⟩ := hb'
        refine ⟨by omega, by rw [hsz]; omega, by omega, fun e => by have := hdg b e; omega, fun e => ?_⟩
        rcases hb with h' | h'
        · rw [h'] at e; have := hkg b e; omega
        · rw [h'] at e; simp only [Option.some.injEq] at e; omega
      · obtain ⟨q1, q2⟩ := hb'
        rw [heap_setCell_ne (by omega), e24 b q2 (fun e => by have := hkg b e; omega)]

/-- The reader's block is no block of the tree. -/
theorem Rd.up {L : Nat} {s : ByteArray} {a : Nat} {bad : Int} {w w' : World} (h : Rd L s a bad w) {B : Nat} (hb : Below B w w') (hB : L < B) : Rd L s a bad w' := (hb.block L hB).trans h

theorem below4 (B : Nat) (w : World) (b : Nat) (h : B ≤ b) (d0 d1 d2 d3 : Value) : Below B w (set4 w b d0 d1 d2 d3) :=
  ((((Below.refl B w).setCell (p := ⟨b, 0, none⟩) h d0).setCell (p := ⟨b, 1, none⟩) h d1).setCell (p := ⟨b, 2, none⟩) h d2).setCell (p := ⟨b, 3, none⟩) h d3
/-- What is returned. -/
theorem RdSt.finish {L : Nat} {w wr : World} {num : Nat} {bl : Bool} {d : List UInt8} {O : Nat} {dv kv : Value} {ks : List Tr} {kxs : List Value} (h : RdSt L w num bl d O dv kv ks kxs wr) (d0 d1 d2 d3 : Value) :
    Owned w.heap.size (.node num bl d ks) dv kv kxs (set4 wr w.heap.size d0 d1 d2 d3) ∧ Kept L w (set4 wr w.heap.size d0 d1 d2 d3) := by
  refine ⟨⟨owned_kept h.data (by omega) (fun g hg => heap_set4_ne _ _ _ _ (by have := owned_lt h.data g hg; omega)), owned_kept h.kids (by omega) (fun g hg => heap_set4_ne _ _ _ _ (by have := owned_lt h.kids g hg; omega)), h.apart, ?_⟩, h.kept.more (below4 w.heap.size wr w.heap.size (Nat.le_refl _) d0 d1 d2 d3)⟩
  exact C.reps_mono (fun b hb => ⟨by omega, by rw [size_set4]; exact hb.2.1, hb.2.2.2⟩) (fun b hb => heap_set4_ne _ _ _ _ (by omega)) _ _ h.parts
end Go.Proofs.Ytdogiobppeemiaa
