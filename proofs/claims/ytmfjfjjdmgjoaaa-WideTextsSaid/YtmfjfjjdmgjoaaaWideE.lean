/- wide.Parse: what it reads, and the walk. -/
import Derived.Test.YtmfjfjjdmgjoaaaWideD
namespace Go.Proofs.Ytmfjfjjdmgjoaaa
open Go.RowKit Go.Lib

/-- The loop of Parse, from a number on. -/
def parseLoop : List UInt8 → Nat → Bool → Int × Int
  | [], n, g => if g = true then (0, 40) else ((n : Int), 0)
  | c :: r, n, g =>
    if isDig c = true then
      if 10 * n + (c.toNat - 48) ≤ 18446744073709551615 then parseLoop r (10 * n + (c.toNat - 48)) g else parseLoop r 0 true
    else (0, 5)
def parseBad (l : List UInt8) : Bool := match l with
  | [] => true
  | [_] => false
  | c :: _ :: _ => decide (c.toNat = 48)
def parseS (l : List UInt8) : Int × Int := if parseBad l = true then (0, 5) else parseLoop l 0 false

theorem parseLoop_dig {c : UInt8} {r : List UInt8} {n : Nat} {g : Bool} (hc : isDig c = true) (h : 10 * n + (c.toNat - 48) ≤ 18446744073709551615) :
    parseLoop (c :: r) n g = parseLoop r (10 * n + (c.toNat - 48)) g := by
  rw [parseLoop, if_pos hc, if_pos h]
theorem parseLoop_great {c : UInt8} {r : List UInt8} {n : Nat} {g : Bool} (hc : isDig c = true) (h : ¬ 10 * n + (c.toNat - 48) ≤ 18446744073709551615) :
    parseLoop (c :: r) n g = parseLoop r 0 true := by
  rw [parseLoop, if_pos hc, if_neg h]
theorem parseLoop_bad {c : UInt8} {r : List UInt8} {n : Nat} {g : Bool} (hc : ¬ isDig c = true) : parseLoop (c :: r) n g = (0, 5) := by
  rw [parseLoop, if_neg hc]

/-- The state of Parse's loop at a round's head. -/
def ParseInv (s : ByteArray) (i v g : Value) : Prop :=
  ∃ (k n : Nat) (b : Bool), i = .int .i64 (k : Int) ∧ v = .int .u64 (n : Int) ∧ g = .bool b ∧ k ≤ s.size ∧ n < 18446744073709551616 ∧ parseLoop (s.data.toList.drop k) n b = parseS s.data.toList

theorem drop_at (s : ByteArray) (k : Nat) (h : k < s.size) : s.data.toList.drop k = s[k] :: s.data.toList.drop (k + 1) := by
  rw [List.drop_eq_getElem_cons (by simpa using h)]; rfl

theorem ret_pi {a b c d : Int} (h : (a, c) = (b, d)) : Ending.returned (.tuple #[.int .u64 a, .int .i64 c]) = .returned (.tuple #[.int .u64 b, .int .i64 d]) := by
  simp only [Prod.mk.injEq] at h; rw [h.1, h.2]

set_option maxHeartbeats 1600000 in
theorem wparse (s : ByteArray) (w : World) (hs : s.size ≤ maxLen) :
    Calls Try.prog 16 #[.string s] w fun e w' => e = .returned (.tuple #[.int .u64 (parseS s.data.toList).1, .int .i64 (parseS s.data.toList).2]) ∧ w = w' := by
  unfold maxLen at hs
  by_cases h0 : s.data.toList = []
  · have e1 : parseS s.data.toList = (0, 5) := by rw [h0]; rfl
    have E1 := Lib.hid e1
    have he : s.toList.isEmpty = true := by rw [ByteArray.toList_eq, h0]; rfl
    clear e1 h0
    go_enter Try.func16, Try.ntmps16
    go_wp2
    go_ret2
    exact ⟨ret_pi (by rw [E1.out]), rfl⟩
  have hsz : 0 < s.size := by
    rcases Nat.eq_zero_or_pos s.size with h | h
    · exact absurd (by simpa [← List.length_eq_zero_iff] using h) h0
    · exact h
  have he : s.toList.isEmpty = false := by rw [ByteArray.toList_eq]; simpa using h0
  have hcases : (parseBad s.data.toList = false ∧ (s.size = 1 ∨ 1 < s.size ∧ ((s[0].toNat : Int) == 48) = false)) ∨ (parseBad s.data.toList = true ∧ 1 < s.size ∧ ((s[0].toNat : Int) == 48) = true) := by
    have hl : s.size = s.data.toList.length := by simp
    have h1 := drop_at s 0 hsz
    simp only [List.drop_zero] at h1
    rcases Nat.lt_or_ge 1 s.size with h | h
    · have h2 := drop_at s 1 h
      rw [h2] at h1
      rw [h1]
      simp only [parseBad]
      by_cases hc : s[0].toNat = 48
      · exact .inr ⟨by simp [hc], h, by simp [hc]⟩
      · exact .inl ⟨by simp [hc], .inr ⟨h, by simp; omega⟩⟩
    · have h3 : s.data.toList.drop (0 + 1) = [] := List.drop_eq_nil_of_le (by omega)
      rw [h3] at h1
      rw [h1]
      exact .inl ⟨rfl, .inl (by omega)⟩
  clear h0
  rcases hcases with ⟨hb, hc⟩ | ⟨hb, hl, hc⟩
  · have hI : ParseInv s (.int .i64 0) (.int .u64 0) (.bool false) := ⟨0, 0, false, rfl, rfl, rfl, by omega, by omega, by rw [parseS, hb]; rfl⟩
    have HI := Lib.hid hI
    clear hI hb
    have hc' : ¬ 1 < s.size ∨ 1 < s.size ∧ ((s[0].toNat : Int) == 48) = false := by
      rcases hc with hc | hc
      · exact .inl (by omega)
      · exact .inr hc
    clear hc
    rcases hc' with hc | ⟨hl, hc⟩
    all_goals
      go_enter Try.func16, Try.ntmps16
      go_wp2
      clear hc
      go_loop [23, 4, 5] (fun i v g => ParseInv s i v g) (fun i _ _ => s.size - (intOf i).toNat)
      case atStart => exact HI.out
      case round =>
        obtain ⟨k, n, b, rfl, rfl, rfl, hk, hn, hp⟩ := hrel
        by_cases hlt : k < s.size
        · have hd := drop_at s k hlt
          rw [hd] at hp
          by_cases c1 : (s[k].toNat : Int) < 48
          · have hq : parseS s.data.toList = (0, 5) := by rw [← hp]; exact parseLoop_bad (fun h => by have := isDig_iff h; omega)
            have HQ := Lib.hid hq
            clear hp hd hq
            go_wp2
            go_ret2
            exact ⟨ret_pi (by rw [HQ.out]), rfl⟩
          by_cases c2 : 57 < (s[k].toNat : Int)
          · have hq : parseS s.data.toList = (0, 5) := by rw [← hp]; exact parseLoop_bad (fun h => by have := isDig_iff h; omega)
            have HQ := Lib.hid hq
            clear hp hd hq
            go_wp2
            go_ret2
            exact ⟨ret_pi (by rw [HQ.out]), rfl⟩
          have hdig : isDig s[k] = true := by simp [isDig]; omega
          by_cases c3 : 10 * n + (s[k].toNat - 48) ≤ 18446744073709551615
          · have hnext : ParseInv s (.int .i64 ((k : Int) + 1)) (.int .u64 (10 * (n : Int) + ((s[k].toNat : Int) - 48))) (.bool b) :=
              ⟨k + 1, 10 * n + (s[k].toNat - 48), b, rfl, by congr 1; omega, rfl, by omega, by omega, by rw [← hp, parseLoop_dig hdig c3]⟩
            have HN := Lib.hid hnext
            clear hp hd hnext hdig
            go_wp2_with (go_at_call 13; refine (wline_ok _ _ _ _ (by omega) (by omega) (by omega) (by omega) (by omega) (by omega)).mono ?_; rintro e w' ⟨rfl, rfl⟩)
            exact ⟨HN.out, by simp [intOf]; omega⟩
          · have hnext : ParseInv s (.int .i64 ((k : Int) + 1)) (.int .u64 0) (.bool true) :=
              ⟨k + 1, 0, true, rfl, rfl, rfl, by omega, by omega, by rw [← hp, parseLoop_great hdig c3]⟩
            have HN := Lib.hid hnext
            clear hp hd hnext hdig
            go_wp2_with (go_at_call 13; refine (wline_no _ _ _ _ (by omega) (by omega) (by omega) (by omega) (by omega) (by omega) (by omega)).mono ?_; rintro e w' ⟨rfl, rfl⟩)
            exact ⟨HN.out, by simp [intOf]; omega⟩
        · have hk' : k = s.size := by omega
          have hend : parseS s.data.toList = if b = true then (0, 40) else ((n : Int), 0) := by
            rw [← hp, List.drop_eq_nil_of_le (by simp; omega)]; rfl
          have HE := Lib.hid hend
          clear hp hend hk'
          cases b
          all_goals
            go_wp2
            go_ret2
            exact ⟨ret_pi (by rw [HE.out]; rfl), rfl⟩
  · have e1 : parseS s.data.toList = (0, 5) := by rw [parseS, hb]; rfl
    have E1 := Lib.hid e1
    clear e1 hb
    go_enter Try.func16, Try.ntmps16
    go_wp2
    go_ret2
    exact ⟨ret_pi (by rw [E1.out]), rfl⟩
end Go.Proofs.Ytmfjfjjdmgjoaaa
