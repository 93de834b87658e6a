/- The law TreePuts: its plain law, and its callees' contracts as it wants them. -/
import Derived.Test.YtdogiobppeemiaaLb
namespace Go.Proofs.Ytdogiobppeemiaa
set_option linter.unusedSimpArgs false
set_option linter.unusedVariables false
open Go.RowKit

theorem sizes_set : ∀ (ks : List Tr) (n : Nat) (k : Tr) (h : n < ks.length), Tr.sizes (ks.set n k) + ks[n].size = Tr.sizes ks + k.size
  | t :: r, 0, k, _ => by simp only [List.set_cons_zero, List.getElem_cons_zero, Tr.sizes]; omega
  | t :: r, n + 1, k, h => by
    have := sizes_set r n k (by simpa using h)
    simp only [List.set_cons_succ, List.getElem_cons_succ, Tr.sizes]; omega
theorem oks_set : ∀ (ks : List Tr) (n : Nat) (k : Tr), Tr.oks ks → k.ok → Tr.oks (ks.set n k)
  | [], _, _, h, _ => h
  | t :: r, 0, k, h, hk => by rw [Tr.oks] at h; rw [List.set_cons_zero, Tr.oks]; exact ⟨hk, h.2⟩
  | t :: r, n + 1, k, h, hk => by rw [Tr.oks] at h; rw [List.set_cons_succ, Tr.oks]; exact ⟨h.1, oks_set r n k h.2 hk⟩
theorem smalls_set : ∀ (ks : List Tr) (n : Nat) (k : Tr), Tr.smalls ks → k.small → Tr.smalls (ks.set n k)
  | [], _, _, h, _ => h
  | t :: r, 0, k, h, hk => by rw [Tr.smalls] at h; rw [List.set_cons_zero, Tr.smalls]; exact ⟨hk, h.2⟩
  | t :: r, n + 1, k, h, hk => by rw [Tr.smalls] at h; rw [List.set_cons_succ, Tr.smalls]; exact ⟨h.1, smalls_set r n k h.2 hk⟩

/-- Where a part is put it stands, and nothing else has changed. -/
theorem put_laws (p : Tr) : ∀ (way : List Int) (t : Tr), (t.at_ way = none ∧ t.put p way = none) ∨
    ∃ old u, t.at_ way = some old ∧ t.put p way = some u ∧ u.at_ way = some p ∧ u.put old way = some t ∧ u.size + old.size = t.size + p.size ∧ (t.ok → p.ok → u.ok ∧ old.ok) ∧ (t.small → p.small → u.small ∧ old.small)
  | [], t => .inr ⟨t, p, rfl, rfl, rfl, rfl, by omega, fun h h' => ⟨h', h⟩, fun h h' => ⟨h', h⟩⟩
  | i :: r, t => by
    by_cases hi : 0 ≤ i ∧ i < (t.kids.length : Int)
    · obtain ⟨n, rfl⟩ := Int.eq_ofNat_of_zero_le hi.1
      have hn : n < t.kids.length := by omega
      rw [Tr.at_in hn, Tr.put_in hn]
      rcases put_laws p r t.kids[n] with ⟨h1, h2⟩ | ⟨old, k, h1, h2, h3, h4, h5, h6, h7⟩
      · left; rw [h2]; exact ⟨h1, rfl⟩
      · right
        have hkl : (t.setKid n k).kids.length = t.kids.length := by simp [Tr.setKid]
        have hn' : n < (t.setKid n k).kids.length := by omega
        have hget : (t.setKid n k).kids[n] = k := by simp [Tr.setKid]
        refine ⟨old, t.setKid n k, h1, by rw [h2], ?_, ?_, ?_, ?_, ?_⟩
        · rw [Tr.at_in hn', hget]; exact h3
        · rw [Tr.put_in hn', hget, h4]
          obtain ⟨a, b, d, ks⟩ := t
          simp [Tr.setKid]
        · obtain ⟨a, b, d, ks⟩ := t
          have := sizes_set ks n k hn
          simp only [Tr.setKid, Tr.size] at *
          omega
        · intro ho hp
          obtain ⟨a, b, d, ks⟩ := t
          rw [Tr.ok] at ho
          obtain ⟨hk, hold⟩ := h6 (Tr.oks_at ho.2.2.2 n hn) hp
          refine ⟨?_, hold⟩
          simp only [Tr.setKid]
          rw [Tr.ok]
          exact ⟨ho.1, ho.2.1, by rw [List.length_set]; exact ho.2.2.1, oks_set ks n k ho.2.2.2 hk⟩
        · intro ho hp
          obtain ⟨a, b, d, ks⟩ := t
          rw [Tr.small] at ho
          obtain ⟨hk, hold⟩ := h7 (Tr.smalls_at ho.2.2 n hn) hp
          refine ⟨?_, hold⟩
          simp only [Tr.setKid]
          rw [Tr.small]
          exact ⟨ho.1, by rw [List.length_set]; exact ho.2.1, smalls_set ks n k ho.2.2 hk⟩
    · left
      rw [Tr.at_out hi, Tr.put_out hi]
      exact ⟨rfl, rfl⟩

/-- The way, as it lies. -/
structure WayAt (way : List Int) (a : Option Addr) (len cap : Nat) (w : World) : Prop where
  hlen : way.length = len
  hle : len ≤ cap
  hcap : cap ≤ maxLen
  elems : Elems .i64 w a way
  wf : ∀ n ∈ way, (Lit.int .i64 n).wf = true
theorem WayAt.up {way : List Int} {a : Option Addr} {len cap : Nat} {w w' : World} (h : WayAt way a len cap w) (hb : Below w.heap.size w w') : WayAt way a len cap w' := ⟨h.hlen, h.hle, h.hcap, h.elems.below hb, h.wf⟩

theorem at_some {t u : Tr} {dv kv : Value} {a : Option Addr} {len cap : Nat} {way : List Int} {w : World} (h : t.at_ way = some u) (ht : TrAt (· < w.heap.size) w t dv kv) (hw : WayAt way a len cap w) :
    Calls Try.prog 15 #[.agg #[.int .u64 (t.num : Int), .bool t.blank, dv, kv], .slice a len cap] w fun e w' => ∃ ua uc va vc, e = .returned (.tuple #[.agg #[.int .u64 (u.num : Int), .bool u.blank, .slice ua u.data.length uc, .slice va u.kids.length vc], .bool true]) ∧
      TrAt (· < w'.heap.size) w' u (.slice ua u.data.length uc) (.slice va u.kids.length vc) ∧ Below w.heap.size w w' := by
  refine (at_any t dv kv a len cap way w ht hw.hlen (Nat.le_trans hw.hle hw.hcap) hw.elems hw.wf).mono ?_
  rintro e w' ⟨hb, ⟨u', dv', kv', hu, ht', rfl⟩ | ⟨hu, _⟩⟩
  · rw [h] at hu
    simp only [Option.some.injEq] at hu
    subst hu
    have h2 := ht'.up hb
    obtain ⟨ua, uc, va, vc, rfl, rfl, _, _, _, _⟩ := h2.form
    exact ⟨_, _, _, _, rfl, h2, hb⟩
  · rw [h] at hu; simp at hu
theorem at_none {t : Tr} {dv kv : Value} {a : Option Addr} {len cap : Nat} {way : List Int} {w : World} (h : t.at_ way = none) (ht : TrAt (· < w.heap.size) w t dv kv) (hw : WayAt way a len cap w) :
    Calls Try.prog 15 #[.agg #[.int .u64 (t.num : Int), .bool t.blank, dv, kv], .slice a len cap] w fun e w' => e = .returned (.tuple #[.agg #[.int .u64 0, .bool false, .slice none 0 0, .slice none 0 0], .bool false]) ∧ Below w.heap.size w w' := by
  refine (at_any t dv kv a len cap way w ht hw.hlen (Nat.le_trans hw.hle hw.hcap) hw.elems hw.wf).mono ?_
  rintro e w' ⟨hb, ⟨u', dv', kv', hu, ht', rfl⟩ | ⟨_, rfl⟩⟩
  · rw [h] at hu; simp at hu
  · exact ⟨rfl, hb⟩
theorem put_some {t p u : Tr} {dv kv dp kp : Value} {a : Option Addr} {len cap : Nat} {way : List Int} {w : World} (h : t.put p way = some u) (s1 : t.small) (s2 : p.small) (s3 : t.size ≤ 1000000) (s4 : p.size ≤ 1000000)
    (ht : TrAt (· < w.heap.size) w t dv kv) (hp : TrAt (· < w.heap.size) w p dp kp) (hw : WayAt way a len cap w) :
    Calls Try.prog 16 #[.agg #[.int .u64 (t.num : Int), .bool t.blank, dv, kv], .agg #[.int .u64 (p.num : Int), .bool p.blank, dp, kp], .slice a len cap] w fun e w' => ∃ ua uc va vc, e = .returned (.tuple #[.agg #[.int .u64 (u.num : Int), .bool u.blank, .slice ua u.data.length uc, .slice va u.kids.length vc], .bool true]) ∧
      TrAt (· < w'.heap.size) w' u (.slice ua u.data.length uc) (.slice va u.kids.length vc) ∧ Below w.heap.size w w' := by
  refine (put_said way.length t p dv kv dp kp a len cap way w (Nat.le_refl _) s1 s2 s3 s4 ht hp hw.hlen hw.hle hw.hcap hw.elems hw.wf).mono ?_
  rintro e w' ⟨hb, ⟨u', dv', kv', hu, ht', rfl⟩ | ⟨hu, _⟩⟩
  · rw [h] at hu
    simp only [Option.some.injEq] at hu
    subst hu
    have h2 : TrAt (· < w'.heap.size) w' _ dv' kv' := ht'.weaken (fun _ h => h.2)
    obtain ⟨ua, uc, va, vc, rfl, rfl, _, _, _, _⟩ := h2.form
    exact ⟨_, _, _, _, rfl, h2, hb⟩
  · rw [h] at hu; simp at hu
theorem put_none {t p : Tr} {dv kv dp kp : Value} {a : Option Addr} {len cap : Nat} {way : List Int} {w : World} (h : t.put p way = none) (s1 : t.small) (s2 : p.small) (s3 : t.size ≤ 1000000) (s4 : p.size ≤ 1000000)
    (ht : TrAt (· < w.heap.size) w t dv kv) (hp : TrAt (· < w.heap.size) w p dp kp) (hw : WayAt way a len cap w) :
    Calls Try.prog 16 #[.agg #[.int .u64 (t.num : Int), .bool t.blank, dv, kv], .agg #[.int .u64 (p.num : Int), .bool p.blank, dp, kp], .slice a len cap] w fun e w' => e = .returned (.tuple #[.agg #[.int .u64 0, .bool false, .slice none 0 0, .slice none 0 0], .bool false]) ∧ Below w.heap.size w w' := by
  refine (put_said way.length t p dv kv dp kp a len cap way w (Nat.le_refl _) s1 s2 s3 s4 ht hp hw.hlen hw.hle hw.hcap hw.elems hw.wf).mono ?_
  rintro e w' ⟨hb, ⟨u', dv', kv', hu, ht', rfl⟩ | ⟨_, rfl⟩⟩
  · rw [h] at hu; simp at hu
  · exact ⟨rfl, hb⟩
end Go.Proofs.Ytdogiobppeemiaa
