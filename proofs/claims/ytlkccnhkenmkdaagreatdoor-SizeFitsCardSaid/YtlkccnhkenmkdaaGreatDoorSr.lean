/- (class.Set).Each hands on the bytes of the set. -/
import Derived.Test.YtlkccnhkenmkdaaGreatDoorSq
import Derived.Test.YtlkccnhkenmkdaaGreatDoorME
import Derived.RangeFuncNested
import Derived.RangeFuncCalls
import Derived.Shelf.Abstract
import Derived.Shelf.RegionOpen
import Derived.WalkKit
import Derived.OwnWalkIn
import Derived.TacticsInMore
import Derived.LoopNIn
import Derived.LoopIn
namespace Go.Proofs.YtlkccnhkenmkdaaGreatDoor
open Go.RowKit
set_option linter.unusedSimpArgs false
set_option linter.unusedVariables false
set_option linter.unnecessarySimpa false
set_option linter.defProp false
attribute [local go_sem] Oper.semAt_some
noncomputable section
def CB (mx : Int) : Cx := (C0 mx).bare
/- (guipure/class.Set).Has -/
def kHas_T (v0 v1 v2 v4 : AV) : Tm := (.nd 2 (.nd 1 (.lf 0 v0) (.lf 1 v1)) (.nd 4 (.lf 2 v2) (.lf 4 v4)))
def kHas_0 (mx : Int) : K := kAt [] (kOf (CB mx) 202)
section
set_option maxRecDepth 100000
variable (mx : Int) (run : Run) (lp : Lp) (κn : Kt) (κx : Ex → Kt) (h : AH) (v0 v1 v2 v4 : AV)
theorem kHas_0_eq : kc (CB mx) run lp (kHas_0 mx) ⟨kHas_T v0 v1 v2 v4, h⟩ κn κx = boxA 110 v0 h (fun a0 h => shrA 255 8 v1 (.int 18446744073709551615 6) h (fun a1 h => idxA 4 1 a0 a1 h (fun a2 h => load1 a2 h (fun a3 h => bitA 255 255 Nat.land v1 (.int 255 63) h (fun a4 h => shrA 18446744073709551615 64 a3 a4 h (fun a5 h => bitA 18446744073709551615 18446744073709551615 Nat.land a5 (.int 18446744073709551615 1) h (fun a6 h => cmp ibeq a6 (.int 18446744073709551615 1) h (fun a7 h => κx .ret ⟨kHas_T v0 v1 a0 a7, h⟩)))))))) := by kernel_rfl
theorem kHas_end : kcE (CB mx) [.tmp 4] ⟨kHas_T v0 v1 v2 v4, h⟩ = some (.vh v4 h) := (kcE_eq _ _ _).trans (by kernel_rfl)
theorem kHas_fk : fkAt (CB mx) 202 = some ⟨kHas_0 mx, [0, 1, 2, 4], 14, [.tmp 4]⟩ := by kernel_rfl
end
theorem kHas_run (mx : Int) (run : Run) (lp : Lp) (x0 x1 : AV) (h : AH) : runF (CB mx) run lp 202 [x0, x1] h = vhO (kc (CB mx) run lp (kHas_0 mx) ⟨kHas_T x0 x1 .bot .bot, h⟩ (kcE (CB mx) [.tmp 4]) (kcQ (CB mx) [.tmp 4])) := (run_kc (by kernel_rfl) (kHas_fk mx) (by kernel_rfl)).trans (by kernel_rfl)
theorem kHas_nat (mx : Int) (p : List Nat) : NatK (CB mx) (kAt p (kOf (CB mx) 202)) := kAt_nat p (kOf_nat (CB mx) 202)
def kHas_s := And.intro @kHas_0_eq (@kHas_end)
end
theorem tou_le {t n : Nat} (h : n ≤ t) : toU t (.ofNat n) = n := by
  show bq (Nat.ble n t) n _ = n
  rw [Nat.ble_eq_true_of_le h]; rfl
theorem wrapA_nn {m n : Nat} (h : n ≤ m) : wrapA m (.ofNat n) = .ofNat n := by
  show bq (Nat.ble n m) _ _ = _
  rw [Nat.ble_eq_true_of_le h]; rfl
theorem minN_le {a b : Nat} (h : a ≤ b) : minN a b = a := by
  show bq (Nat.ble a b) a b = a
  rw [Nat.ble_eq_true_of_le h]; rfl
theorem has_tail {w x : Nat} (hw : w ≤ 18446744073709551615) (hx : x < 256) (h : AH) (κ : Ka) : bitA 255 255 Nat.land (.int 255 (.ofNat x)) (.int 255 63) h (fun a4 h => shrA 18446744073709551615 64 (.int 18446744073709551615 (.ofNat w)) a4 h fun a5 h => bitA 18446744073709551615 18446744073709551615 Nat.land a5 (.int 18446744073709551615 1) h fun a6 h => cmp ibeq a6 (.int 18446744073709551615 1) h κ) =
    κ (.bool (Nat.beq (Nat.land (Nat.div w (Nat.pow 2 (Nat.mod x 64))) 1) 1)) h := by
  have e1 : Nat.land x 63 = x % 64 := Nat.and_two_pow_sub_one_eq_mod x 6
  have s1 : ∀ (h : AH) (κ : Ka), bitA 255 255 Nat.land (.int 255 (.ofNat x)) (.int 255 63) h κ = κ (.int 255 (.ofNat (x % 64))) h := fun h κ => by
    have : bitA 255 255 Nat.land (.int 255 (.ofNat x)) (.int 255 63) h κ = κ (.int 255 (wrapA 255 (.ofNat (Nat.land (toU 255 (.ofNat x)) 63)))) h := rfl
    rw [this, tou_le (by omega), e1, wrapA_nn (by omega)]
  have hd : Nat.div w (Nat.pow 2 (x % 64)) ≤ 18446744073709551615 := Nat.le_trans (Nat.div_le_self _ _) hw
  have s2 : ∀ (h : AH) (κ : Ka), shrA 18446744073709551615 64 (.int 18446744073709551615 (.ofNat w)) (.int 255 (.ofNat (x % 64))) h κ = κ (.int 18446744073709551615 (.ofNat (Nat.div w (Nat.pow 2 (x % 64))))) h := fun h κ => by
    have : shrA 18446744073709551615 64 (.int 18446744073709551615 (.ofNat w)) (.int 255 (.ofNat (x % 64))) h κ = κ (.int 18446744073709551615 (.ofNat (Nat.div w (Nat.pow 2 (minN (x % 64) 64))))) h := rfl
    rw [this, minN_le (by omega)]
  have s3 : ∀ (h : AH) (κ : Ka), bitA 18446744073709551615 18446744073709551615 Nat.land (.int 18446744073709551615 (.ofNat (Nat.div w (Nat.pow 2 (x % 64))))) (.int 18446744073709551615 1) h κ = κ (.int 18446744073709551615 (.ofNat (Nat.land (Nat.div w (Nat.pow 2 (x % 64))) 1))) h := fun h κ => by
    have : bitA 18446744073709551615 18446744073709551615 Nat.land (.int 18446744073709551615 (.ofNat (Nat.div w (Nat.pow 2 (x % 64))))) (.int 18446744073709551615 1) h κ = κ (.int 18446744073709551615 (wrapA 18446744073709551615 (.ofNat (Nat.land (toU 18446744073709551615 (.ofNat (Nat.div w (Nat.pow 2 (x % 64))))) 1)))) h := rfl
    rw [this, tou_le hd]
    exact congrArg (fun z => κ (.int 18446744073709551615 z) h) (wrapA_nn (n := Nat.land _ 1) (Nat.le_trans (show Nat.land _ 1 ≤ 1 from Nat.and_le_right) (by decide)))
  rw [s1, s2, s3]
  rfl
theorem has_gives {mx : Int} {a b c d x : Nat} (hx : x < 256) (ha : a ≤ 18446744073709551615) (hb : b ≤ 18446744073709551615) (hc : c ≤ 18446744073709551615) (hd : d ≤ 18446744073709551615) :
    Gives (fun r _ => r = .bool (hasN a b c d x)) ((rl (CB mx) 2).run 202 [.agg [.int 18446744073709551615 (.ofNat a), .int 18446744073709551615 (.ofNat b), .int 18446744073709551615 (.ofNat c), .int 18446744073709551615 (.ofNat d)], .int 255 (.ofNat x)] []) := by
  refine Gives.runs (n := 1) (kHas_run mx _ _ _ _ _) ?_
  simp only [sy, List.length_append, Nat.reduceAdd, Nat.reduceMul, Nat.reduceSub, Nat.reduceLeDiff, Nat.reduceEqDiff, Nat.reduceLT, reduceIte, kHas_s]
  have hs : ∀ (h : AH) (κ : Ka), shrA 255 8 (.int 255 (.ofNat x)) (.int 18446744073709551615 6) h κ = κ (.int 255 (.ofNat (x / 64))) h := fun _ _ => rfl
  rw [hs]
  have hq : x / 64 = 0 ∨ x / 64 = 1 ∨ x / 64 = 2 ∨ x / 64 = 3 := by omega
  have b1 : ∀ {m n : Nat}, m < n → Nat.blt m n = true := fun h => by simpa [Nat.blt_eq] using h
  have b0 : ∀ {m n : Nat}, n ≤ m → Nat.blt m n = false := fun h => by
    cases hb : Nat.blt _ _ with
    | false => rfl
    | true => rw [Nat.blt_eq] at hb; omega
  rcases hq with hq | hq | hq | hq
  · rw [hq]
    have e : hasN a b c d x = Nat.beq (Nat.land (Nat.div a (Nat.pow 2 (Nat.mod x 64))) 1) 1 := by
      unfold hasN wordN
      rw [b1 (show x < 64 by omega)]; rfl
    rw [e]
    exact (congrArg (Ends _) (has_tail ha hx _ _)).mpr (Ends.mk rfl)
  · rw [hq]
    have e : hasN a b c d x = Nat.beq (Nat.land (Nat.div b (Nat.pow 2 (Nat.mod x 64))) 1) 1 := by
      unfold hasN wordN
      rw [b0 (show 64 ≤ x by omega), b1 (show x < 128 by omega)]; rfl
    rw [e]
    exact (congrArg (Ends _) (has_tail hb hx _ _)).mpr (Ends.mk rfl)
  · rw [hq]
    have e : hasN a b c d x = Nat.beq (Nat.land (Nat.div c (Nat.pow 2 (Nat.mod x 64))) 1) 1 := by
      unfold hasN wordN
      rw [b0 (show 64 ≤ x by omega), b0 (show 128 ≤ x by omega), b1 (show x < 192 by omega)]; rfl
    rw [e]
    exact (congrArg (Ends _) (has_tail hc hx _ _)).mpr (Ends.mk rfl)
  · rw [hq]
    have e : hasN a b c d x = Nat.beq (Nat.land (Nat.div d (Nat.pow 2 (Nat.mod x 64))) 1) 1 := by
      unfold hasN wordN
      rw [b0 (show 64 ≤ x by omega), b0 (show 128 ≤ x by omega), b0 (show 192 ≤ x by omega)]; rfl
    rw [e]
    exact (congrArg (Ends _) (has_tail hd hx _ _)).mpr (Ends.mk rfl)
/-- The set as a value. -/
def setV (a b c d : Nat) : Value := .agg #[.int .u64 (a : Int), .int .u64 (b : Int), .int .u64 (c : Int), .int .u64 (d : Int)]
theorem int_V {ok : Nat → Prop} {w : World} {ρ : Rho} (k : IntKind) (n : Int) : V ok w (.int (maxN k) n) ρ (.int k n) := by simp only [V]; exact ⟨k, rfl, rfl⟩
theorem has_calls {mx : Int} {a b c d x : Nat} (hx : x < 256) (ha : a ≤ 18446744073709551615) (hb : b ≤ 18446744073709551615) (hc : c ≤ 18446744073709551615) (hd : d ≤ 18446744073709551615) (w : World) :
    Calls Tryz.prog 202 #[setV a b c d, .int .u8 (x : Int)] w fun e w' => e = .returned (.bool (hasN a b c d x)) ∧ Grows w w' := by
  obtain ⟨r, h', e, rfl⟩ := has_gives (mx := mx) hx ha hb hc hd
  refine (bare_calls (C := C0 mx) c0_ok e (us := #[setV a b c d, .int .u8 (x : Int)]) ?_).mono ?_
  · have hi : ∀ n : Nat, V (fun _ => False) w (.int 18446744073709551615 (.ofNat n)) ρ0 (.int .u64 (.ofNat n)) := fun n => int_V .u64 _
    simp only [VL]
    refine ⟨_, _, rfl, ?_, _, _, rfl, int_V .u8 _, rfl⟩
    simp only [V]
    refine ⟨_, rfl, ?_⟩
    simp only [VL]
    exact ⟨_, _, rfl, hi a, _, _, rfl, hi b, _, _, rfl, hi c, _, _, rfl, hi d, rfl⟩
  · rintro en w' ⟨u, rfl, G, ok', ρ', hv⟩
    simp only [V] at hv
    exact ⟨by rw [hv], G⟩
/-- The bytes of the set, rising; how many there are below i. -/
def upN (f : Nat → Bool) (i : Nat) : List Nat := (List.range i).filter f
theorem upN_succ (f : Nat → Bool) (i : Nat) : upN f (i + 1) = if f i then upN f i ++ [i] else upN f i := by
  unfold upN
  rw [List.range_succ, List.filter_append]
  cases h : f i <;> simp [h]
theorem upN_get (f : Nat → Bool) {i : Nat} (hi : f i = true) : ∀ n, (upN f (i + 1 + n))[(upN f i).length]? = some i
  | 0 => by rw [Nat.add_zero, upN_succ, if_pos hi]; simp
  | n + 1 => by
    rw [← Nat.add_assoc, upN_succ]
    have h := upN_get f hi n
    split
    · rw [List.getElem?_append_left (List.getElem?_eq_some_iff.1 h).1]; exact h
    · exact h
set_option maxRecDepth 100000 in
set_option maxHeartbeats 2000000 in
theorem each_in {a b c d : Nat} (ha : a ≤ 18446744073709551615) (hb : b ≤ 18446744073709551615) (hc : c ≤ 18446744073709551615) (hd : d ≤ 18446744073709551615) (l : Nat) (J : Nat → List Nat → World → Prop) (W : World)
    (hJ : ∀ k Fs W W' rs, J k Fs W → Grows W W' → (∀ r ∈ rs, W.heap.size ≤ r ∧ r < W'.heap.size) → J k (rs ++ Fs) W')
    (hY : ∀ k Fs W1 x, J k Fs W1 → (upN (hasN a b c d) 256)[k]? = some x → YieldAt Fence.wide 0 Tryz.prog l #[.int .u8 (x : Int)] W1 fun e W' => e = .returned (.bool true) ∧ J (k + 1) Fs W' ∧ ∀ r ∈ Fs, W'.heap[r]? = W1.heap[r]?)
    (h0 : J 0 [] W) : CallsIn Fence.wide 0 Tryz.prog 182 #[setV a b c d, .func (.yield l) #[] #[]] W fun e W' => (∃ v, e = .returned v) ∧ ∃ Fs, J (upN (hasN a b c d) 256).length Fs W' := by
  unfold setV
  refine callsIn_of_wp Tryz.func182 rfl trivial ?_ rfl
  simp only [Tryz.ntmps182, List.size_toArray, List.length_cons, List.length_nil, Nat.reduceAdd, Nat.reduceSub, Array.replicate_succ, Array.replicate_zero, List.push_toArray, List.append_toArray, List.nil_append, List.cons_append]
  gi_wp2
  have wrp : ∀ i : Nat, i < 256 → IntKind.u8.wrap (i : Int) = (i : Int) := fun i hi => by
    have h : ∀ i : Fin 256, IntKind.u8.wrap (i.val : Int) = (i.val : Int) := by decide +kernel
    exact h ⟨i, hi⟩
  gi_loopw [5] (fun p wr => ∃ (i : Nat) (Fs : List Nat), p = .int .i64 (i : Int) ∧ i ≤ 256 ∧ J (upN (hasN a b c d) i).length Fs wr ∧ W.heap.size ∈ Fs ∧ wr.heap[W.heap.size]? = some (.cells #[.int .u64 (a : Int), .int .u64 (b : Int), .int .u64 (c : Int), .int .u64 (d : Int)] 109)) (fun p _ => 256 - (intOf p).toNat)
  case atStart =>
    refine ⟨0, [W.heap.size], rfl, by omega, ?_, by simp, World.alloc_heap_new W _⟩
    exact hJ 0 [] W _ [W.heap.size] h0 (Grows.alloc _ _) (fun r hr => by simp at hr; subst hr; simp)
  case round =>
    obtain ⟨i, Fs, rfl, hi, hj, hB, hh⟩ := hrel
    have c0 : wr.cell? ⟨W.heap.size, 0, none⟩ = some (.int .u64 (a : Int)) := by simp [World.cell?, hh]
    have c1 : wr.cell? ⟨W.heap.size, 1, none⟩ = some (.int .u64 (b : Int)) := by simp [World.cell?, hh]
    have c2 : wr.cell? ⟨W.heap.size, 2, none⟩ = some (.int .u64 (c : Int)) := by simp [World.cell?, hh]
    have c3 : wr.cell? ⟨W.heap.size, 3, none⟩ = some (.int .u64 (d : Int)) := by simp [World.cell?, hh]
    by_cases hlt : i < 256
    · have hlt' : (i : Int) < 256 := by omega
      have hw := wrp i hlt
      cases hf : hasN a b c d i with
      | false =>
        gi_wp2_with (refine ⟨trivial, rfl, ?_⟩; gi_at_call 202; refine (callsIn_wide.2 (has_calls (mx := 0) hlt ha hb hc hd _)).mono ?_; rw [hf]; rintro e W2 ⟨rfl, G⟩)
        have hj2 := hJ _ _ _ W2 [] hj G (fun r hr => nomatch hr)
        refine ⟨fun _ h => (by cases h), ?_⟩
        gi_wp2
        go_roundw
        case rel => exact ⟨i + 1, Fs, by simp, by omega, by rw [upN_succ, hf]; exact hj2, hB, (G.keep _ (Array.getElem?_eq_some_iff.1 hh).1).trans hh⟩
        case measure =>
          show 256 - (intOf (.int .i64 ((i : Int) + 1))).toNat < 256 - (intOf (.int .i64 (i : Int))).toNat
          simp only [intOf]
          omega
      | true =>
        gi_wp2_with (refine ⟨trivial, rfl, ?_⟩; gi_at_call 202; refine (callsIn_wide.2 (has_calls (mx := 0) hlt ha hb hc hd _)).mono ?_; rw [hf]; rintro e W2 ⟨rfl, G⟩)
        have hj2 := hJ _ _ _ W2 [] hj G (fun r hr => nomatch hr)
        have hget : (upN (hasN a b c d) 256)[(upN (hasN a b c d) i).length]? = some i := by
          have := upN_get (hasN a b c d) hf (255 - i)
          rwa [show i + 1 + (255 - i) = 256 by omega] at this
        obtain ⟨fn, tm, asg, bo, hy, hR⟩ := hY _ _ W2 i hj2 hget
        rw [hy]
        refine ⟨fun h => (by cases h), hR.mono ?_⟩
        rintro e W3 ⟨rfl, hj3, hk3⟩
        gi_wp2
        go_roundw
        case rel => exact ⟨i + 1, Fs, by simp, by omega, by rw [upN_succ, hf, if_pos rfl, List.length_append]; exact hj3, hB, (hk3 _ hB).trans ((G.keep _ (Array.getElem?_eq_some_iff.1 hh).1).trans hh)⟩
        case measure =>
          show 256 - (intOf (.int .i64 ((i : Int) + 1))).toNat < 256 - (intOf (.int .i64 (i : Int))).toNat
          simp only [intOf]
          omega
    · obtain rfl : i = 256 := by omega
      gi_wp2
      go_end0
      exact ⟨⟨_, rfl⟩, Fs, hj⟩
theorem eachL_eq (f : Nat → Bool) : ∀ n i, eachL f n i = ((List.range' i n).filter f).map fun x => .int 255 (.ofNat x)
  | 0, i => rfl
  | n + 1, i => by
    have ih := eachL_eq f n (i + 1)
    show bq (f i) (.int 255 (.ofNat i) :: stN (Nat.succ i) (eachL f n)) (stN (Nat.succ i) (eachL f n)) = _
    rw [stN_eq, List.range'_succ, List.filter_cons]
    cases h : f i with
    | true => rw [bq_true, if_pos rfl, List.map_cons, ← ih]
    | false => rw [bq_false, if_neg (by simp), ← ih]
theorem kind_u64 {k : IntKind} (h : maxN k = 18446744073709551615) : k = .u64 := by cases k <;> first | rfl | (exact absurd h (by decide))
set_option maxRecDepth 1000000 in
theorem each_seq : SeqOk Tryz.prog 182 eachQ := by
  refine ⟨enters_of Tryz.func182 (by kernel_rfl) rfl, fun first xs e ok w ρ us hv l J W hJ hY h0 => ?_⟩
  unfold eachQ at e
  split at e
  case h_2 => cases e
  rename_i k1 a k2 b k3 c k4 d
  obtain ⟨e1, e2⟩ := bq_some (show bq _ _ none = some xs from e)
  obtain ⟨e3, e4⟩ := bq_some e2
  cases e4
  rw [Bool.and_eq_true, Bool.and_eq_true, Bool.and_eq_true] at e1 e3
  obtain ⟨⟨p1, p2⟩, p3, p4⟩ := e1
  obtain ⟨⟨l1, l2⟩, l3, l4⟩ := e3
  obtain rfl := Nat.eq_of_beq_eq_true p1
  obtain rfl := Nat.eq_of_beq_eq_true p2
  obtain rfl := Nat.eq_of_beq_eq_true p3
  obtain rfl := Nat.eq_of_beq_eq_true p4
  simp only [VL] at hv
  obtain ⟨u, r, rfl, hv, rfl⟩ := hv
  simp only [V] at hv
  obtain ⟨vs, rfl, hv⟩ := hv
  simp only [VL, V] at hv
  obtain ⟨u1, r1, q1, ⟨t1, y1, rfl⟩, u2, r2, rfl, ⟨t2, y2, rfl⟩, u3, r3, rfl, ⟨t3, y3, rfl⟩, u4, r4, rfl, ⟨t4, y4, rfl⟩, rfl⟩ := hv
  obtain rfl := kind_u64 (by first | exact y1 | exact y1.symm)
  obtain rfl := kind_u64 (by first | exact y2 | exact y2.symm)
  obtain rfl := kind_u64 (by first | exact y3 | exact y3.symm)
  obtain rfl := kind_u64 (by first | exact y4 | exact y4.symm)
  have hx : eachL (hasN a b c d) 256 0 = (upN (hasN a b c d) 256).map fun x => .int 255 (.ofNat x) := by rw [eachL_eq, upN, List.range_eq_range']
  have hset : vs = #[.int .u64 (.ofNat a), .int .u64 (.ofNat b), .int .u64 (.ofNat c), .int .u64 (.ofNat d)] := Array.ext' q1
  subst hset
  have := each_in (Nat.le_of_ble_eq_true l1) (Nat.le_of_ble_eq_true l2) (Nat.le_of_ble_eq_true l3) (Nat.le_of_ble_eq_true l4) l J W hJ (fun k Fs W1 x hj hk => hY k Fs W1 _ _ hj (by rw [hx, List.getElem?_map, hk]; rfl) (fun ok w ρ => int_V .u8 _)) h0
  rw [hx, List.length_map]
  unfold setV at this
  exact this
set_option maxRecDepth 100000 in
theorem cs_ok {mx : Int} : CxOk Tryz.prog (CS mx) := c0_ok.seqd fun g q e => by
  obtain ⟨e1, e2⟩ := bq_some (show bq (Nat.beq g 182) (some eachQ) none = some q from e)
  cases e2
  rw [Nat.eq_of_beq_eq_true e1]
  exact each_seq
end Go.Proofs.YtlkccnhkenmkdaaGreatDoor
