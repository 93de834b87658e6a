/- Externs, calls told ahead, arguments that came in, rules of symbolic runs, the frame. -/
import Derived.Test.YtdkioifmieamoaaGreatDoorMD
import Derived.Laws.Externs
import Derived.Lib.Bytealg
import Derived.Conc.AtomicLaws2
import Derived.Test.YtdkioifmieamoaaGreatDoorMB
import Derived.OpenShut
import Derived.ChangeArms
import Derived.ChangeBears
import Derived.RowKit
import Derived.HandedShaped
import Derived.Handed
import Derived.Below
import Derived.Carry
import Derived.FnData
import Derived.WideShapes
import Derived.KernelRfl
namespace Go.Proofs.YtdkioifmieamoaaGreatDoor
set_option linter.unusedSimpArgs false
set_option linter.unusedVariables false
set_option linter.unnecessarySimpa false
/-- What such a function promises. -/
def ExtOk (P : Program) (C : Cx) (f : Nat) (g : List AV → AH → Option (AV × AH)) : Prop :=
  ∀ args h v h', g args h = some (v, h') → ∀ ok w ρ us, Inv C ok w ρ h → VL ok w args ρ us → ∃ u w' ok' ρ', (callFunc f us.toArray).run P w = .ok (.value u) w' ∧ Ext ok w ρ h ok' w' ρ' h' ∧ Inv C ok' w' ρ' h' ∧ V ok' w' v ρ' u
/-- The model's row of a function. -/
structure RowOf (P : Program) (f : Nat) (e : Array Value → Sem Value) : Prop where
  row : ∃ fn, P.funcs[f]? = some fn ∧ (fn.name == "runtime.NumGoroutine") = false ∧ fn.body.isNone = true ∧ Extern.findNext fn = none ∧ Extern.find fn = some e
theorem RowOf.run {P : Program} {f : Nat} {e : Array Value → Sem Value} (R : RowOf P f e) (us : Array Value) (w : World) : (callFunc f us).run P w = ((e us).run P w).andThen fun v w' => .ok (.value v) w' := by
  obtain ⟨fn, h1, h2, h3, h4, h5⟩ := R.row
  exact run_callFunc_extern h1 h2 h3 h4 h5 us w
/-- One that answers, and no more. -/
theorem ExtOk.pure {P : Program} {C : Cx} {f : Nat} {e : Array Value → Sem Value} (R : RowOf P f e) {g : List AV → Option AV}
    (h : ∀ args v, g args = some v → ∀ ok w ρ us, VL ok w args ρ us → ∃ u, (e us.toArray).run P w = .ok u w ∧ V ok w v ρ u) : ExtOk P C f (fun args h => obind (g args) fun v => some (v, h)) := by
  intro args hh v h' e1 ok w ρ us I hv
  obtain ⟨x, e2, e3⟩ := obind_eq_some e1
  cases e3
  obtain ⟨u, h1, h2⟩ := h args v e2 ok w ρ us hv
  exact ⟨u, w, ok, ρ, by rw [R.run, h1]; rfl, Ext.refl _ _ _ _, I, h2⟩
/- math/bits.Add64 -/
noncomputable def addX (l : List AV) : Option AV :=
  match l with
  | [.int k1 (.ofNat a), .int k2 (.ofNat b), .int k3 (.ofNat c)] => bq (and (and (Nat.beq k1 18446744073709551615) (Nat.beq k2 18446744073709551615)) (and (Nat.beq k3 18446744073709551615) (Nat.ble c 1)))
      (some (.tup [.int 18446744073709551615 (.ofNat (Nat.mod (Nat.add (Nat.add a b) c) 18446744073709551616)), .int 18446744073709551615 (.ofNat (Nat.div (Nat.add (Nat.add a b) c) 18446744073709551616))])) none
  | _ => none
theorem addX_ok {P : Program} {C : Cx} {f : Nat} (R : RowOf P f add64Entry) : ExtOk P C f (fun args h => obind (addX args) fun v => some (v, h)) := by
  refine ExtOk.pure R (fun args v e ok w ρ us hv => ?_)
  unfold addX at e
  split at e
  · rename_i k1 a k2 b k3 c
    obtain ⟨e1, e2⟩ := bq_some e
    cases e2
    simp only [Bool.and_eq_true] at e1
    obtain ⟨⟨h1, h2⟩, h3, h4⟩ := e1
    have h4 := Nat.le_of_ble_eq_true h4
    simp only [VL] at hv
    obtain ⟨u1, _, rfl, v1, u2, _, rfl, v2, u3, _, rfl, v3, rfl⟩ := hv
    simp only [V] at v1 v2 v3
    obtain ⟨q1, rfl, rfl⟩ := v1
    obtain ⟨q2, rfl, rfl⟩ := v2
    obtain ⟨q3, rfl, rfl⟩ := v3
    cases kind_of (b := .u64) h1
    cases kind_of (b := .u64) h2
    cases kind_of (b := .u64) h3
    have := run_add64 (P := P) (a : Int) (b : Int) (c : Int) (by omega) (by omega) (by omega) (by omega) w
    refine ⟨_, this, ?_⟩
    simp only [V]
    refine ⟨_, rfl, ?_⟩
    simp only [VL]
    refine ⟨_, _, rfl, ?_, _, _, rfl, ?_, rfl⟩
    · simp only [V]
      refine ⟨.u64, rfl, ?_⟩
      congr 1
    · simp only [V]
      refine ⟨.u64, rfl, ?_⟩
      congr 1
  · cases e
/- internal/bytealg.IndexByteString -/
noncomputable def idxByte (c : Nat) (l : List Nat) : Nat → Int := List.rec (motive := fun _ => Nat → Int) (fun _ => .negSucc 0) (fun a _ ih i => bq (Nat.beq a c) (.ofNat i) (ih (Nat.succ i))) l
noncomputable def idxBX (l : List AV) : Option AV :=
  match l with
  | [.str s, .int k (.ofNat c)] => bq (and (Nat.beq k 255) (Nat.blt c 256)) (some (.int 9223372036854775807 (idxByte c s 0))) none
  | _ => none
theorem idxByte_eq (c : UInt8) : ∀ (l : List UInt8) (i : Nat), idxByte c.toNat (l.map UInt8.toNat) i = if Lib.indexByte l c = -1 then -1 else Lib.indexByte l c + i
  | [], i => rfl
  | a :: l, i => by
    show bq (Nat.beq a.toNat c.toNat) (.ofNat i) (idxByte c.toNat (l.map UInt8.toNat) (i + 1)) = _
    rw [idxByte_eq c l (i + 1)]
    have hge := Lib.indexByte_ge l c
    by_cases h : a = c
    · subst h
      have e1 : Lib.indexByte (a :: l) a = 0 := by simp [Lib.indexByte]
      rw [Nat.beq_refl, bq_true, e1]
      simp
    · have h1 : Nat.beq a.toNat c.toNat = false := by
        rw [Bool.eq_false_iff]
        intro hh
        exact h (UInt8.toNat_inj.1 (Nat.eq_of_beq_eq_true hh))
      rw [h1, bq_false]
      by_cases h3 : Lib.indexByte l c = -1
      · have e1 : Lib.indexByte (a :: l) c = -1 := by simp [Lib.indexByte, h, h3]
        rw [e1, if_pos h3, if_pos rfl]
      · have e1 : Lib.indexByte (a :: l) c = Lib.indexByte l c + 1 := by simp [Lib.indexByte, h, h3]
        rw [e1, if_neg h3, if_neg (by omega)]
        push_cast
        omega
theorem idxBX_ok {P : Program} {C : Cx} {f : Nat} (R : RowOf P f Extern.BytealgIndexByte.indexByte) : ExtOk P C f (fun args h => obind (idxBX args) fun v => some (v, h)) := by
  refine ExtOk.pure R (fun args v e ok w ρ us hv => ?_)
  unfold idxBX at e
  split at e
  · rename_i s k c
    obtain ⟨e1, e2⟩ := bq_some e
    cases e2
    rw [Bool.and_eq_true] at e1
    have hc : c < 256 := by simpa [Nat.blt_eq] using e1.2
    simp only [VL] at hv
    obtain ⟨u1, _, rfl, v1, u2, _, rfl, v2, rfl⟩ := hv
    simp only [V] at v1 v2
    obtain ⟨S, rfl, rfl⟩ := v1
    obtain ⟨q, rfl, rfl⟩ := v2
    cases kind_of (b := .u8) e1.1
    refine ⟨_, run_indexByte_string S (c : Int) w, ?_⟩
    simp only [V]
    refine ⟨.i64, rfl, ?_⟩
    have h1 := idxByte_eq (UInt8.ofNat c) S.data.toList 0
    have h2 : (UInt8.ofNat c).toNat = c := by simp [UInt8.toNat_ofNat', Nat.mod_eq_of_lt hc]
    rw [h2] at h1
    rw [h1]
    have h3 : Int.toNat (c : Int) = c := by omega
    rw [h3]
    have h4 : Nat.toUInt8 c = UInt8.ofNat c := rfl
    rw [h4, Lib.firstIdx_eq]
    split
    · next h => rw [h]
    · simp
  · cases e
end Go.Proofs.YtdkioifmieamoaaGreatDoor
namespace Go.Proofs.YtdkioifmieamoaaGreatDoor
set_option linter.unusedSimpArgs false
set_option linter.unusedVariables false
set_option linter.unnecessarySimpa false
noncomputable section
/-- The entries of a function: arguments, and what comes of them. -/
def memoF (l : List (List AV × AV)) (args : List AV) : Option AV := List.rec (motive := fun _ => Option AV) none (fun p _ ih => bq (AV.same (.agg p.1) (.agg args)) (some p.2) ih) l
def memoOf (t : BT (List (List AV × AV))) (f : Nat) (args : List AV) : Option AV := obind (bget t f) fun l => memoF l args
end
theorem memoF_mem : ∀ {l : List (List AV × AV)} {args : List AV} {v : AV}, memoF l args = some v → (args, v) ∈ l
  | [], args, v, e => by cases e
  | p :: l, args, v, e => by
    have e : bq (AV.same (.agg p.1) (.agg args)) (some p.2) (memoF l args) = some v := e
    cases h : AV.same (.agg p.1) (.agg args) with
    | true =>
      rw [h] at e
      cases e
      rw [← sameA_eq h]
      simp
    | false => rw [h] at e; exact List.mem_cons_of_mem _ (memoF_mem e)
theorem Inv.of_gl {C C' : Cx} (hg : C'.gl = C.gl) {ok : Nat → Prop} {w : World} {ρ : Rho} {h : AH} (I : Inv C ok w ρ h) : Inv C' ok w ρ h :=
  ⟨I.okb, I.dom, I.live, I.inj, fun g cs e => I.gl g cs (by rw [← hg]; exact e)⟩
theorem RunAt.of_gl {P : Program} {C C' : Cx} (hg : C'.gl = C.gl) {f : Nat} {args : List AV} {h : AH} {r : AV} {h' : AH} (R : RunAt P C f args h r h') : RunAt P C' f args h r h' :=
  ⟨R.1, fun ok w ρ us I hv => (R.2 ok w ρ us (I.of_gl hg.symm) hv).mono fun e w' ⟨u, ok', ρ', h1, h2, h3, h4⟩ => ⟨u, ok', ρ', h1, h2, h3.of_gl hg, h4⟩⟩
theorem MemoOk.of_gl {P : Program} {C C' : Cx} (hg : C'.gl = C.gl) {f : Nat} {args : List AV} {v : AV} (R : MemoOk P C f args v) : MemoOk P C' f args v :=
  ⟨R.1, R.2.1, fun ok w us I hv => (R.2.2 ok w us (I.of_gl hg.symm) hv).mono fun e w' ⟨u, ok', h1, h2, h3, h4⟩ => ⟨u, ok', h1, h2, h3.of_gl hg, h4⟩⟩
/-- A call that was run is one that may be told ahead. -/
theorem memo_of_run {P : Program} {C : Cx} (X : CxOk P C) {n f : Nat} {args : List AV} {v : AV} (e : obind (runN C n f args []) (importA C f []) = some (v, [])) (hl : v.lt 0 = true) : MemoOk P C f args v := by
  obtain ⟨⟨r, h1⟩, e1, e2⟩ := obind_eq_some e
  obtain ⟨q1, q2⟩ := runN_ok X n f args [] r h1 e1
  refine ⟨q1, hl, fun ok w us I hv => (q2 ok w ρ0 us I hv).mono fun en w' => ?_⟩
  rintro ⟨u, ok', ρ', rfl, E, I', hv'⟩
  obtain ⟨ok2, ρ2, E2, I2, V2⟩ := import_ok I E I' hv' e2
  have hz : ∀ n r, ρ2 n = some r → False := fun n r e => absurd (I2.dom n r e).1 (Nat.not_lt_zero n)
  have hρ : ρ2 = ρ0 := by
    funext n
    cases h : ρ2 n with
    | none => rfl
    | some r => exact (hz n r h).elim
  subst hρ
  exact ⟨u, ok2, rfl, E2, I2, V2⟩
theorem memo_of_runG {P : Program} {C : Cx} (X : CxOk P C) {n f : Nat} {args : List AV} {v : AV} (e : obind (runG C n f args []) (importA C f []) = some (v, [])) (hl : v.lt 0 = true) : MemoOk P C f args v := by
  obtain ⟨⟨r, h1⟩, e1, e2⟩ := obind_eq_some e
  obtain ⟨q1, q2⟩ := runG_ok X n f args [] r h1 e1
  refine ⟨q1, hl, fun ok w us I hv => (q2 ok w ρ0 us I hv).mono fun en w' => ?_⟩
  rintro ⟨u, ok', ρ', rfl, E, I', hv'⟩
  obtain ⟨ok2, ρ2, E2, I2, V2⟩ := import_ok I E I' hv' e2
  have hz : ∀ n r, ρ2 n = some r → False := fun n r e => absurd (I2.dom n r e).1 (Nat.not_lt_zero n)
  have hρ : ρ2 = ρ0 := by
    funext n
    cases h : ρ2 n with
    | none => rfl
    | some r => exact (hz n r h).elim
  subst hρ
  exact ⟨u, ok2, rfl, E2, I2, V2⟩
/-- All entries of a table. -/
def MemosOk (P : Program) (C : Cx) (t : BT (List (List AV × AV))) : Prop := BTAll (fun f l => ∀ p ∈ l, MemoOk P C f p.1 p.2) t
theorem MemosOk.memo {P : Program} {C : Cx} {t : BT (List (List AV × AV))} (h : MemosOk P C t) : ∀ f args v, memoOf t f args = some v → MemoOk P C f args v := by
  intro f args v e
  obtain ⟨l, e1, e2⟩ := obind_eq_some e
  exact BTAll.get h f l e1 (args, v) (memoF_mem e2)
/-- The same context, with calls told ahead. -/
noncomputable def Cx.told (C : Cx) (t : BT (List (List AV × AV))) : Cx := { C with memo := memoOf t }
theorem told_gl (C : Cx) (t : BT (List (List AV × AV))) : (C.told t).gl = C.gl := rfl
theorem MemoOk.untold {P : Program} {C : Cx} {t : BT (List (List AV × AV))} {f : Nat} {args : List AV} {v : AV} (h : MemoOk P (C.told t) f args v) : MemoOk P C f args v := h.of_gl (told_gl C t).symm
theorem CxOk.told {P : Program} {C : Cx} (X : CxOk P C) {t : BT (List (List AV × AV))} (h : MemosOk P C t) : CxOk P (C.told t) :=
  ⟨X.ty, X.one, X.fl, X.fn, fun f g e args h v h' k ok w ρ us I hv => by
      obtain ⟨u, w', ok', ρ', h1, h2, h3, h4⟩ := X.ext f g e args h v h' k ok w ρ us (I.of_gl (told_gl C t).symm) hv
      exact ⟨u, w', ok', ρ', h1, h2, h3.of_gl (told_gl C t), h4⟩,
    fun f args v e => (h.memo f args v e).of_gl (told_gl C t),
    fun f g e run H args h r h' k => (X.orc f g e run (fun f args h r h' k => (H f args h r h' k).of_gl (told_gl C t).symm) args h r h' k).of_gl (told_gl C t), X.mixed, X.sq⟩
/-- The same context, in which calls of some functions run in the caller's memory, whatever they are given. -/
noncomputable def Cx.ownd (C : Cx) (g : Nat → Bool) : Cx := { C with own := g }
theorem ownd_gl (C : Cx) (g : Nat → Bool) : (C.ownd g).gl = C.gl := rfl
theorem CxOk.ownd {P : Program} {C : Cx} (X : CxOk P C) (g : Nat → Bool) : CxOk P (C.ownd g) :=
  ⟨X.ty, X.one, X.fl, X.fn, fun f g' e args h v h' k ok w ρ us I hv => by
      obtain ⟨u, w', ok', ρ', h1, h2, h3, h4⟩ := X.ext f g' e args h v h' k ok w ρ us (I.of_gl (ownd_gl C g).symm) hv
      exact ⟨u, w', ok', ρ', h1, h2, h3.of_gl (ownd_gl C g), h4⟩,
    fun f args v e => (X.memo f args v e).of_gl (ownd_gl C g),
    fun f g' e run H args h r h' k => (X.orc f g' e run (fun f args h r h' k => (H f args h r h' k).of_gl (ownd_gl C g).symm) args h r h' k).of_gl (ownd_gl C g), X.mixed, X.sq⟩
/-- One entry more. -/
theorem MemosOk.of_gl {P : Program} {C C' : Cx} (hg : C'.gl = C.gl) {t : BT (List (List AV × AV))} (h : MemosOk P C t) : MemosOk P C' t := by
  induction t with
  | nl => trivial
  | lf k l => exact fun p hp => (h p hp).of_gl hg
  | nd m a b iha ihb => exact ⟨iha h.1, ihb h.2⟩
/-- The same context, with one function's answer told by a law of its own. -/
noncomputable def Cx.opened (C : Cx) (f0 : Nat) (g0 : List AV → AH → Option (AV × AH)) : Cx := { C with orc := fun f => bq (Nat.beq f f0) (some fun _ => g0) (C.orc f) }
theorem opened_gl (C : Cx) (f0 : Nat) (g0 : List AV → AH → Option (AV × AH)) : (C.opened f0 g0).gl = C.gl := rfl
theorem CxOk.opened {P : Program} {C : Cx} (X : CxOk P C) {f0 : Nat} {g0 : List AV → AH → Option (AV × AH)} (h0 : ∀ args h r h', g0 args h = some (r, h') → RunAt P C f0 args h r h') : CxOk P (C.opened f0 g0) :=
  ⟨X.ty, X.one, X.fl, X.fn, fun f g e args h v h' k ok w ρ us I hv => by
      obtain ⟨u, w', ok', ρ', h1, h2, h3, h4⟩ := X.ext f g e args h v h' k ok w ρ us (I.of_gl (opened_gl C f0 g0).symm) hv
      exact ⟨u, w', ok', ρ', h1, h2, h3.of_gl (opened_gl C f0 g0), h4⟩,
    fun f args v e => (X.memo f args v e).of_gl (opened_gl C f0 g0),
    fun f g e run H args h r h' k => by
      have e : bq (Nat.beq f f0) (some fun _ => g0) (C.orc f) = some g := e
      cases hb : Nat.beq f f0 with
      | true =>
        rw [hb, bq_true] at e
        cases e
        rw [Nat.eq_of_beq_eq_true hb]
        exact (h0 args h r h' k).of_gl (opened_gl C f0 g0)
      | false =>
        rw [hb, bq_false] at e
        exact (X.orc f g e run (fun f args h r h' k => (H f args h r h' k).of_gl (opened_gl C f0 g0).symm) args h r h' k).of_gl (opened_gl C f0 g0), X.mixed, X.sq⟩
/-- Calls in the caller's memory, told ahead: arguments and memory, what comes of them and what is left. -/
abbrev Ent := List AV × AH × AV × AH
noncomputable def entF (l : List Ent) (args : List AV) (h : AH) : Option (AV × AH) := List.rec (motive := fun _ => Option (AV × AH)) none (fun p _ ih => bq (AV.same (.agg p.1) (.agg args)) (bq (sameH p.2.1 h) (some p.2.2) ih) ih) l
theorem entF_mem : ∀ {l : List Ent} {args : List AV} {h : AH} {x : AV × AH}, entF l args h = some x → (args, h, x) ∈ l
  | [], args, h, x, e => by cases e
  | p :: l, args, h, x, e => by
    have e : bq (AV.same (.agg p.1) (.agg args)) (bq (sameH p.2.1 h) (some p.2.2) (entF l args h)) (entF l args h) = some x := e
    cases h1 : AV.same (.agg p.1) (.agg args) with
    | true =>
      rw [h1, bq_true] at e
      cases h2 : sameH p.2.1 h with
      | true =>
        rw [h2, bq_true] at e
        cases e
        rw [← sameA_eq h1, ← sameH_eq h2]
        simp
      | false => rw [h2] at e; exact List.mem_cons_of_mem _ (entF_mem e)
    | false => rw [h1] at e; exact List.mem_cons_of_mem _ (entF_mem e)
def EntsOk (P : Program) (C : Cx) (t : BT (List Ent)) : Prop := BTAll (fun f l => ∀ p ∈ l, RunAt P C f p.1 p.2.1 p.2.2.1 p.2.2.2) t
theorem EntsOk.of_gl {P : Program} {C C' : Cx} {t : BT (List Ent)} (h : EntsOk P C t) (hg : C'.gl = C.gl) : EntsOk P C' t := by
  induction t with
  | nl => trivial
  | lf k l => exact fun p hp => (h p hp).of_gl hg
  | nd m a b iha ihb => exact ⟨iha h.1, ihb h.2⟩
noncomputable def Cx.heard (C : Cx) (t : BT (List Ent)) : Cx := { C with orc := fun f => Option.rec (motive := fun _ => Option (Run → List AV → AH → Option (AV × AH))) (C.orc f) (fun l => some fun _ => entF l) (bget t f) }
theorem heard_gl (C : Cx) (t : BT (List Ent)) : (C.heard t).gl = C.gl := rfl
theorem CxOk.heard {P : Program} {C : Cx} (X : CxOk P C) {t : BT (List Ent)} (h0 : EntsOk P C t) : CxOk P (C.heard t) :=
  ⟨X.ty, X.one, X.fl, X.fn, fun f g e args h v h' k ok w ρ us I hv => by
      obtain ⟨u, w', ok', ρ', h1, h2, h3, h4⟩ := X.ext f g e args h v h' k ok w ρ us (I.of_gl (heard_gl C t).symm) hv
      exact ⟨u, w', ok', ρ', h1, h2, h3.of_gl (heard_gl C t), h4⟩,
    fun f args v e => (X.memo f args v e).of_gl (heard_gl C t),
    fun f g e run H args h r h' k => by
      have e : Option.rec (motive := fun _ => Option (Run → List AV → AH → Option (AV × AH))) (C.orc f) (fun l => some fun _ => entF l) (bget t f) = some g := e
      cases hb : bget t f with
      | some l =>
        rw [hb] at e
        cases e
        exact (BTAll.get h0 f l hb (args, h, r, h') (entF_mem k)).of_gl (heard_gl C t)
      | none =>
        rw [hb] at e
        exact (X.orc f g e run (fun f args h r h' k => (H f args h r h' k).of_gl (heard_gl C t).symm) args h r h' k).of_gl (heard_gl C t), X.mixed, X.sq⟩
/-- The same context, in which some functions' ranges are told. -/
noncomputable def Cx.seqd (C : Cx) (f : Nat → Option (List AV → Option (List AV))) : Cx := { C with sq := f }
theorem seqd_gl (C : Cx) (f : Nat → Option (List AV → Option (List AV))) : (C.seqd f).gl = C.gl := rfl
theorem CxOk.seqd {P : Program} {C : Cx} (X : CxOk P C) {s : Nat → Option (List AV → Option (List AV))} (hs : ∀ g q, s g = some q → SeqOk P g q) : CxOk P (C.seqd s) :=
  ⟨X.ty, X.one, X.fl, X.fn, fun f g' e args h v h' k ok w ρ us I hv => by
      obtain ⟨u, w', ok', ρ', h1, h2, h3, h4⟩ := X.ext f g' e args h v h' k ok w ρ us (I.of_gl (seqd_gl C s).symm) hv
      exact ⟨u, w', ok', ρ', h1, h2, h3.of_gl (seqd_gl C s), h4⟩,
    fun f args v e => (X.memo f args v e).of_gl (seqd_gl C s),
    fun f g' e run H args h r h' k => (X.orc f g' e run (fun f args h r h' k => (H f args h r h' k).of_gl (seqd_gl C s).symm) args h r h' k).of_gl (seqd_gl C s), X.mixed, hs⟩
/-- The program's code alone: no variables, no open functions. -/
noncomputable def Cx.bare (C : Cx) : Cx := { C with gl := fun _ => none, orc := fun _ => none, ext := fun _ => none, memo := fun _ _ => none, sq := fun _ => none }
theorem CxOk.bare {P : Program} {C : Cx} (X : CxOk P C) : CxOk P C.bare :=
  ⟨X.ty, X.one, X.fl, X.fn, fun f g' e => (by cases e), fun f args v e => (by cases e), fun f g' e => (by cases e), X.mixed, fun g q e => (by cases e)⟩
theorem bare_inv {C : Cx} {w : World} : Inv C.bare (fun _ => False) w ρ0 [] :=
  ⟨fun _ h => h.elim, fun _ _ e => (by cases e), fun n b e => (by simp [hget, fget] at e), fun n m r hn => absurd (by simp [hget, fget]) hn, fun g cs e => (by cases e)⟩
/-- What a run of the code alone promises. -/
theorem bare_calls {P : Program} {C : Cx} (X : CxOk P C) {n f : Nat} {args : List AV} {r : AV} {h' : AH} (e : runN C.bare n f args [] = some (r, h')) {w : World} {us : Array Value} (hv : VL (fun _ => False) w args ρ0 us.toList) :
    Calls P f us w fun e w' => ∃ u, e = .returned u ∧ Grows w w' ∧ ∃ ok' ρ', V ok' w' r ρ' u := by
  refine ((runN_ok X.bare n f args [] r h' e).2 _ w ρ0 us.toList bare_inv hv).mono ?_
  rintro en w' ⟨u, ok', ρ', rfl, E, I, v⟩
  exact ⟨u, rfl, ⟨E.size, fun r hr => E.keep r hr (fun n hn => absurd (by simp [hget, fget]) hn), E.os, E.tape, E.output⟩, ok', ρ', v⟩
end Go.Proofs.YtdkioifmieamoaaGreatDoor
namespace Go.Proofs.YtdkioifmieamoaaGreatDoor
set_option linter.unusedSimpArgs false
set_option linter.unusedVariables false
set_option linter.unnecessarySimpa false
theorem setCell_at (w : World) (r j : Nat) (arr : Array Value) (e : TypeId) (fr : Nat × Nat) (v : Value) (h : w.heap[r]? = some (.cells arr e fr)) : w.setCell ⟨r, j, none⟩ v = w.setRow r (arr.setIfInBounds j v) := by
  unfold World.setCell World.setRow
  congr 1
  apply Array.ext_getElem?
  intro i
  simp only [Array.getElem?_modify]
  split
  · subst_vars
    rw [h]
    simp
  · rfl
section
variable {P : Program} {C : Cx} {ok : Nat → Prop} {w : World} {ρ : Rho} {h : AH}
/-- A cell of a live block: what stands in it, and what a store into it leaves. -/
theorem live_cell (I : Inv C ok w ρ h) {b o y : Nat} {cs : List AV} {c : AV} (hb : hget h b = some (.cells cs y)) (hc : fget cs o = some c) :
    ∃ r u, ρ b = some r ∧ w.cell? ⟨r, o, none⟩ = some u ∧ V ok w c ρ u ∧ w.frozen? ⟨r, o, none⟩ = false ∧
      ∀ c' u', V ok w c' ρ u' → Ext ok w ρ h ok (w.setCell ⟨r, o, none⟩ u') ρ (fset (some (.cells (fset c' cs o) y)) h b) ∧ Inv C ok (w.setCell ⟨r, o, none⟩ u') ρ (fset (some (.cells (fset c' cs o) y)) h b) := by
  obtain ⟨r, arr, e, fr, k1, k2, k3, k4, k5, k6, k7⟩ := ext_row I hb
  obtain ⟨q, g1, g2, arr0, e0, fr0, g3, g4, g5, g6⟩ := I.live b _ hb
  rw [k1] at g1; cases g1
  rw [k3] at g3; cases g3
  rw [fget_eq] at hc
  obtain ⟨u, c1, c2⟩ := VAt_get g5 hc
  rw [Nat.zero_add] at c1
  have hlt : o < cs.length := (List.getElem?_eq_some_iff.1 hc).1
  refine ⟨r, u, k1, c1, c2, ?_, fun c' u' hv => ?_⟩
  · obtain ⟨lo, hi⟩ := fr
    have := g4 o (by omega)
    simp [World.frozen?, k3]
    simp at this
    omega
  · rw [setCell_at w r o arr _ fr _ k3]
    refine k7 (fset c' cs o) (arr.setIfInBounds o u') (by simp) ?_
    rw [fset_eq, List.length_set, Array.toList_setIfInBounds, take_set_list]
    exact VL_set o k5 hv
end
noncomputable section
/-- The cell that a pointer leads to, and what a store into it leaves. -/
def atCell (h : AH) (b o : Nat) (f : AV → (AV → AH) → Option (AV × AH)) : Option (AV × AH) :=
  match hget h b with
  | some (.cells cs y) => obind (fget cs o) fun c => f c fun v => fset (some (.cells (fset v cs o) y)) h b
  | _ => none
/-- A number of a kind. -/
def numK (m : Nat) (c : AV) (f : Int → Option (AV × AH)) : Option (AV × AH) :=
  match c with
  | .int k n => bq (Nat.beq k m) (f n) none
  | _ => none
def atLoadX (m : Nat) (args : List AV) (h : AH) : Option (AV × AH) :=
  match args with
  | [.pto b o] => atCell h b o fun c _ => numK m c fun n => some (.int m n, h)
  | _ => none
def atStoreX (m : Nat) (args : List AV) (h : AH) : Option (AV × AH) :=
  match args with
  | [.pto b o, x] => atCell h b o fun c s => numK m c fun _ => numK m x fun n => some (.tup [], s (.int m n))
  | _ => none
def atSwapX (m : Nat) (args : List AV) (h : AH) : Option (AV × AH) :=
  match args with
  | [.pto b o, x] => atCell h b o fun c s => numK m c fun z => numK m x fun n => some (.int m z, s (.int m n))
  | _ => none
def atAddX (m : Nat) (args : List AV) (h : AH) : Option (AV × AH) :=
  match args with
  | [.pto b o, x] => atCell h b o fun c s => numK m c fun z => numK m x fun n => some (.int m (wrapA m (iadd z n)), s (.int m (wrapA m (iadd z n))))
  | _ => none
def atCasX (m : Nat) (args : List AV) (h : AH) : Option (AV × AH) :=
  match args with
  | [.pto b o, x, x'] => atCell h b o fun c s => numK m c fun z => numK m x fun n => numK m x' fun n' => bq (ibeq z n) (some (.bool true, s (.int m n'))) (some (.bool false, h))
  | _ => none
end
theorem atCell_some {h : AH} {b o : Nat} {f : AV → (AV → AH) → Option (AV × AH)} {r : AV × AH} (e : atCell h b o f = some r) : ∃ cs y c, hget h b = some (.cells cs y) ∧ fget cs o = some c ∧ f c (fun v => fset (some (.cells (fset v cs o) y)) h b) = some r := by
  unfold atCell at e
  split at e
  · rename_i cs y hb
    obtain ⟨c, e1, e2⟩ := obind_eq_some e
    exact ⟨cs, y, c, hb, e1, e2⟩
  · cases e
theorem numK_some {m : Nat} {c : AV} {f : Int → Option (AV × AH)} {r : AV × AH} (e : numK m c f = some r) : ∃ n, c = .int m n ∧ f n = some r := by
  unfold numK at e
  split at e
  · rename_i k n
    obtain ⟨e1, e2⟩ := bq_some e
    obtain rfl := Nat.eq_of_beq_eq_true e1
    exact ⟨n, rfl, e2⟩
  · cases e
section
variable {P : Program} {C : Cx} {f : Nat} {k : IntKind}
theorem V_num {ok : Nat → Prop} {w : World} {ρ : Rho} {n : Int} {u : Value} (h : V ok w (.int (maxN k) n) ρ u) : u = .int k n := by
  simp only [V] at h
  obtain ⟨k', h1, rfl⟩ := h
  cases k <;> cases k' <;> first | rfl | (exact absurd h1 (by decide))
theorem V_num_mk {ok : Nat → Prop} {w : World} {ρ : Rho} {n : Int} : V ok w (.int (maxN k) n) ρ (.int k n) := by
  simp only [V]
  exact ⟨k, rfl, rfl⟩
theorem run_load_entry {w : World} {ad : Addr} {v : Int} (hc : w.cell? ad = some (.int k v)) : (Extern.Atomic.loadT (.int k) #[.pointer (some ad)]).run P w = .ok (.int k v) w := by
  change Sem.run P (do Extern.Atomic.read (.int k) (← asAddr (.pointer (some ad)))) w = _
  simp [Extern.Atomic.read, asAddr, hc, Result.andThen]
theorem run_store_entry {w : World} {ad : Addr} {v n : Int} (hc : w.cell? ad = some (.int k v)) (hz : w.frozen? ad = false) : (Extern.Atomic.storeT #[.pointer (some ad), .int k n]).run P w = .ok (.tuple #[]) (w.setCell ad (.int k n)) := by
  change Sem.run P (do
    store (← asAddr (.pointer (some ad))) (.int k n) .atomic
    pure Extern.Atomic.none_) w = _
  simp [Extern.Atomic.none_, asAddr, hc, hz, run_store P w ad (.int k n) .atomic rfl, Result.andThen]
theorem run_swap_entry {w : World} {ad : Addr} {v n : Int} (hc : w.cell? ad = some (.int k v)) (hz : w.frozen? ad = false) : (Extern.Atomic.swapT (.int k) #[.pointer (some ad), .int k n]).run P w = .ok (.int k v) (w.setCell ad (.int k n)) := by
  change Sem.run P (do
    let a ← asAddr (.pointer (some ad))
    let old ← Extern.Atomic.read (.int k) a
    store a (.int k n) .atomic
    pure old) w = _
  simp [Extern.Atomic.read, asAddr, hc, hz, run_store P w ad (.int k n) .atomic rfl, Result.andThen]
theorem atLoad_ok (R : RowOf P f (Extern.Atomic.loadT (.int k))) : ExtOk P C f (atLoadX (maxN k)) := by
  intro args h v h' e ok w ρ us I hv
  unfold atLoadX at e
  split at e
  · rename_i b o
    obtain ⟨cs, y, c, e1, e2, e3⟩ := atCell_some e
    obtain ⟨n, rfl, e4⟩ := numK_some e3
    cases e4
    obtain ⟨r, u, g1, g2, g3, g4, g5⟩ := live_cell I e1 e2
    simp only [VL] at hv
    obtain ⟨u1, _, rfl, v1, rfl⟩ := hv
    simp only [V] at v1
    obtain ⟨r', h1, rfl⟩ := v1
    rw [g1] at h1; cases h1
    cases V_num g3
    exact ⟨_, w, ok, ρ, by rw [R.run, run_load_entry g2]; rfl, Ext.refl _ _ _ _, I, V_num_mk⟩
  · cases e
theorem atStore_ok (R : RowOf P f Extern.Atomic.storeT) : ExtOk P C f (atStoreX (maxN k)) := by
  intro args h v h' e ok w ρ us I hv
  unfold atStoreX at e
  split at e
  · rename_i b o x
    obtain ⟨cs, y, c, e1, e2, e3⟩ := atCell_some e
    obtain ⟨z, rfl, e4⟩ := numK_some e3
    obtain ⟨n, rfl, e5⟩ := numK_some e4
    cases e5
    obtain ⟨r, u, g1, g2, g3, g4, g5⟩ := live_cell I e1 e2
    simp only [VL] at hv
    obtain ⟨u1, _, rfl, v1, u2, _, rfl, v2, rfl⟩ := hv
    simp only [V] at v1
    obtain ⟨r', h1, rfl⟩ := v1
    rw [g1] at h1; cases h1
    cases V_num g3
    cases V_num v2
    obtain ⟨E, I'⟩ := g5 (.int (maxN k) n) (.int k n) V_num_mk
    exact ⟨_, _, ok, ρ, by rw [R.run, run_store_entry g2 g4]; rfl, E, I', by simp only [V]; exact ⟨#[], rfl, by simp only [VL]⟩⟩
  · cases e
theorem atSwap_ok (R : RowOf P f (Extern.Atomic.swapT (.int k))) : ExtOk P C f (atSwapX (maxN k)) := by
  intro args h v h' e ok w ρ us I hv
  unfold atSwapX at e
  split at e
  · rename_i b o x
    obtain ⟨cs, y, c, e1, e2, e3⟩ := atCell_some e
    obtain ⟨z, rfl, e4⟩ := numK_some e3
    obtain ⟨n, rfl, e5⟩ := numK_some e4
    cases e5
    obtain ⟨r, u, g1, g2, g3, g4, g5⟩ := live_cell I e1 e2
    simp only [VL] at hv
    obtain ⟨u1, _, rfl, v1, u2, _, rfl, v2, rfl⟩ := hv
    simp only [V] at v1
    obtain ⟨r', h1, rfl⟩ := v1
    rw [g1] at h1; cases h1
    cases V_num g3
    cases V_num v2
    obtain ⟨E, I'⟩ := g5 (.int (maxN k) n) (.int k n) V_num_mk
    exact ⟨_, _, ok, ρ, by rw [R.run, run_swap_entry g2 g4]; rfl, E, I', V_num_mk⟩
  · cases e
theorem atAdd_ok (hk : ∀ n, wrapA (maxN k) n = k.wrap n) (R : RowOf P f (Extern.Atomic.update (Op.intArith .add) k true)) : ExtOk P C f (atAddX (maxN k)) := by
  intro args h v h' e ok w ρ us I hv
  unfold atAddX at e
  split at e
  · rename_i b o x
    obtain ⟨cs, y, c, e1, e2, e3⟩ := atCell_some e
    obtain ⟨z, rfl, e4⟩ := numK_some e3
    obtain ⟨n, rfl, e5⟩ := numK_some e4
    cases e5
    obtain ⟨r, u, g1, g2, g3, g4, g5⟩ := live_cell I e1 e2
    simp only [VL] at hv
    obtain ⟨u1, _, rfl, v1, u2, _, rfl, v2, rfl⟩ := hv
    simp only [V] at v1
    obtain ⟨r', h1, rfl⟩ := v1
    rw [g1] at h1; cases h1
    cases V_num g3
    cases V_num v2
    have hi : iadd z n = z + n := by cases z <;> cases n <;> simp [iadd] <;> rfl
    obtain ⟨E, I'⟩ := g5 (.int (maxN k) (wrapA (maxN k) (iadd z n))) (.int k (k.wrap (z + n))) (by rw [hk, hi]; exact V_num_mk)
    exact ⟨_, _, ok, ρ, by rw [R.run, Go.Conc.run_add_entry g2 g4]; rfl, E, I', by rw [hk, hi]; exact V_num_mk⟩
  · cases e
theorem atCas_ok (R : RowOf P f (Extern.Atomic.casT (.int k))) : ExtOk P C f (atCasX (maxN k)) := by
  intro args h v h' e ok w ρ us I hv
  unfold atCasX at e
  split at e
  · rename_i b o x x'
    obtain ⟨cs, y, c, e1, e2, e3⟩ := atCell_some e
    obtain ⟨z, rfl, e4⟩ := numK_some e3
    obtain ⟨n, rfl, e5⟩ := numK_some e4
    obtain ⟨n', rfl, e6⟩ := numK_some e5
    obtain ⟨r, u, g1, g2, g3, g4, g5⟩ := live_cell I e1 e2
    simp only [VL] at hv
    obtain ⟨u1, _, rfl, v1, u2, _, rfl, v2, u3, _, rfl, v3, rfl⟩ := hv
    simp only [V] at v1
    obtain ⟨r', h1, rfl⟩ := v1
    rw [g1] at h1; cases h1
    cases V_num g3
    cases V_num v2
    cases V_num v3
    have hi : ibeq z n = decide (z = n) := by
      cases z <;> cases n <;> simp [ibeq] <;> (try (rw [Bool.eq_iff_iff]; simp)) <;> (try omega)
    rw [hi] at e6
    by_cases hz : z = n
    · subst hz
      rw [decide_eq_true rfl, bq_true] at e6
      cases e6
      obtain ⟨E, I'⟩ := g5 (.int (maxN k) n') (.int k n') V_num_mk
      exact ⟨_, _, ok, ρ, by rw [R.run]; show ((Extern.Atomic.casT (.int k) #[.pointer (some _), .int k z, .int k n']).run P w).andThen _ = _; rw [Go.Conc.casT_eq, Go.Conc.run_cas_hit_entry g2 g4]; rfl, E, I', by simp only [V]⟩
    · rw [decide_eq_false hz, bq_false] at e6
      cases e6
      exact ⟨_, _, ok, ρ, by rw [R.run]; show ((Extern.Atomic.casT (.int k) #[.pointer (some _), .int k n, .int k n']).run P w).andThen _ = _; rw [Go.Conc.casT_eq, Go.Conc.run_cas_miss_entry g2 g4 hz]; rfl, Ext.refl _ _ _ _, I, by simp only [V]⟩
  · cases e
end
end Go.Proofs.YtdkioifmieamoaaGreatDoor
namespace Go.Proofs.YtdkioifmieamoaaGreatDoor
noncomputable section
/-- The lock is taken, the function is called, 'done' is laid, the lock is let go. -/
def slowO (run : Nat → List AV → AH → Option (AV × AH)) (args : List AV) (h : AH) : Option (AV × AH) :=
  match args with
  | [.pto b o, .fn f [] [.pto q z]] =>
    atCell h b o fun c0 _ => numK 4294967295 c0 fun d => bq (ibeq d 0) (atCell h b (Nat.succ o) fun c1 s1 => numK 2147483647 c1 fun m => bq (ibeq m 0)
      (obind (run f [.pto q z] (s1 (.int 2147483647 1))) fun x => atCell x.2 b o fun c2 s2 => numK 4294967295 c2 fun _ =>
        atCell (s2 (.int 4294967295 1)) b (Nat.succ o) fun c3 s3 => numK 2147483647 c3 fun m' => bq (ibeq m' 1) (some (.tup [], s3 (.int 2147483647 0))) none) none) none
  | _ => none
end
end Go.Proofs.YtdkioifmieamoaaGreatDoor
namespace Go.Proofs.YtdkioifmieamoaaGreatDoor
set_option linter.unusedSimpArgs false
set_option linter.unusedVariables false
set_option linter.unnecessarySimpa false
noncomputable section
/- internal/bytealg.CountString -/
def cntN (c : Nat) (l : List Nat) : Nat := List.rec (motive := fun _ => Nat) 0 (fun a _ n => bq (Nat.beq a c) (Nat.succ n) n) l
def cntX (l : List AV) : Option AV :=
  match l with
  | [.str s, .int k (.ofNat c)] => bq (and (Nat.beq k 255) (Nat.blt c 256)) (some (.int 9223372036854775807 (.ofNat (cntN c s)))) none
  | _ => none
/- internal/abi.NoEscape -/
def sameX (l : List AV) : Option AV :=
  match l with
  | [x] => some x
  | _ => none
end
theorem cntN_eq (c : UInt8) : ∀ l : List UInt8, cntN c.toNat (l.map UInt8.toNat) = Lib.countByte l c
  | [] => rfl
  | a :: l => by
    show bq (Nat.beq a.toNat c.toNat) (Nat.succ (cntN c.toNat (l.map UInt8.toNat))) (cntN c.toNat (l.map UInt8.toNat)) = _
    rw [cntN_eq c l]
    unfold Lib.countByte
    rw [List.count_cons]
    by_cases h : a = c
    · subst h; rw [Nat.beq_refl]; simp [bq]
    · have h1 : Nat.beq a.toNat c.toNat = false := by
        rw [Bool.eq_false_iff]
        intro hh
        exact h (UInt8.toNat_inj.1 (Nat.eq_of_beq_eq_true hh))
      rw [h1, bq_false]
      simp [h]
theorem cntX_ok {P : Program} {C : Cx} {f : Nat} (R : RowOf P f Extern.BytealgCount.count) : ExtOk P C f (fun args h => obind (cntX args) fun v => some (v, h)) := by
  refine ExtOk.pure R (fun args v e ok w ρ us hv => ?_)
  unfold cntX at e
  split at e
  · rename_i s k c
    obtain ⟨e1, e2⟩ := bq_some e
    cases e2
    rw [Bool.and_eq_true] at e1
    have hc : c < 256 := by simpa [Nat.blt_eq] using e1.2
    simp only [VL] at hv
    obtain ⟨u1, _, rfl, v1, u2, _, rfl, v2, rfl⟩ := hv
    simp only [V] at v1 v2
    obtain ⟨S, rfl, rfl⟩ := v1
    obtain ⟨q, rfl, rfl⟩ := v2
    cases kind_of (b := .u8) e1.1
    refine ⟨_, Lib.run_countString S (c : Int) w, ?_⟩
    simp only [V]
    refine ⟨.i64, rfl, ?_⟩
    have h1 := cntN_eq (UInt8.ofNat c) S.data.toList
    have h2 : (UInt8.ofNat c).toNat = c := by simp [UInt8.toNat_ofNat', Nat.mod_eq_of_lt hc]
    rw [h2] at h1
    rw [h1]
    rfl
  · cases e
theorem sameX_ok {P : Program} {C : Cx} {f : Nat} (R : RowOf P f Extern.AbiNoEscape.same) : ExtOk P C f (fun args h => obind (sameX args) fun v => some (v, h)) := by
  intro args h v h' e ok w ρ us I hv
  obtain ⟨x, e1, e2⟩ := obind_eq_some e
  cases e2
  unfold sameX at e1
  split at e1
  · cases e1
    simp only [VL] at hv
    obtain ⟨u1, _, rfl, v1, rfl⟩ := hv
    exact ⟨u1, w, ok, ρ, by rw [R.run]; rfl, Ext.refl _ _ _ _, I, v1⟩
  · cases e1
theorem wrapAK : ∀ {m : Nat} {k : IntKind}, (∀ n, wrapS m n = k.wrap n) → (∀ n : Nat, n ≤ m → k.wrap n = n) → ∀ n, wrapA m n = k.wrap n := by
  intro m k hk hm n
  cases n with
  | ofNat a =>
    show bq (Nat.ble a m) (Int.ofNat a) (wrapS m (.ofNat a)) = _
    by_cases h : a ≤ m
    · rw [Nat.ble_eq_true_of_le h]; exact (hm a h).symm
    · have : Nat.ble a m = false := by rw [Bool.eq_false_iff]; intro c; exact h (Nat.le_of_ble_eq_true c)
      rw [this]; exact hk _
  | negSucc a => exact hk _
theorem wrapK (k : IntKind) (n : Int) : wrapA (maxN k) n = k.wrap n := by
  cases k <;> (refine wrapAK (fun _ => rfl) (fun n hn => ?_) n; simp [maxN] at hn; simp [IntKind.wrap, IntKind.min, IntKind.max, IntKind.signed, IntKind.bits]; omega)
end Go.Proofs.YtdkioifmieamoaaGreatDoor
namespace Go.Proofs.YtdkioifmieamoaaGreatDoor
set_option linter.unusedSimpArgs false
set_option linter.unusedVariables false
set_option linter.unnecessarySimpa false
/-- Cells of some types, one behind the other. -/
def TyL (T : TypeId → List AV → Prop) : List TypeId → List AV → Prop
  | [], as => as = []
  | t :: ts, as => ∃ a r, as = a ++ r ∧ T t a ∧ TyL T ts r
/-- Cells of a type: what is neither a number, a text, a bool, a slice nor made of such is not told. -/
def TyC (P : Program) : Nat → TypeId → List AV → Prop
  | 0, _, _ => False
  | n + 1, t, as => as.length = P.cellsOf t ∧ match P.underlying t with
    | some .bool => ∃ b, as = [.bool b]
    | some (.int k) => ∃ x, as = [.int (maxN k) x] ∧ (Lit.int k x).wf = true
    | some .string => ∃ l, as = [.str l] ∧ (∀ b ∈ l, b < 256) ∧ l.length ≤ maxLen
    | some (.struct fs) => TyL (TyC P n) (fs.toList.map (·.type)) as
    | some (.array m e) => TyL (TyC P n) (List.replicate m e) as
    | some (.slice e) => as = [.nils] ∨ as = [.sle] ∨ ∃ cs len, as = [.slp cs len] ∧ 0 < len ∧ len ≤ maxLen ∧ TyL (TyC P n) (List.replicate len e) cs
    | _ => False
section
variable {P : Program} {w : World} {ok : Nat → Prop}
theorem TyC.len {n : Nat} {t : TypeId} {as : List AV} (h : TyC P n t as) : as.length = P.cellsOf t := by
  cases n with
  | zero => exact h.elim
  | succ n => exact h.1
theorem TyL.len {n : Nat} : ∀ {ts : List TypeId} {as : List AV}, TyL (TyC P n) ts as → as.length = (ts.map P.cellsOf).sum
  | [], as, h => by rw [show as = [] from h]; rfl
  | t :: ts, as, h => by
    obtain ⟨a, r, rfl, h1, h2⟩ := h
    rw [List.length_append, h1.len, TyL.len h2]; simp
theorem sum_rep (c : Nat) : ∀ n, (List.replicate n c).sum = n * c
  | 0 => by simp
  | n + 1 => by rw [List.replicate_succ, List.sum_cons, sum_rep c n, Nat.succ_mul]; omega
/-- An element of a row of a type. -/
theorem TyL.elem {T : TypeId → List AV → Prop} {e : TypeId} {c : Nat} (hc : ∀ as, T e as → as.length = c) : ∀ {len : Nat} {cs : List AV}, TyL T (List.replicate len e) cs → ∀ i, i < len → T e ((cs.drop (i * c)).take c)
  | 0, _, _, i, hi => by omega
  | len + 1, cs, h, i, hi => by
    rw [List.replicate_succ] at h
    obtain ⟨a, r, rfl, h1, h2⟩ := h
    have hl := hc a h1
    cases i with
    | zero => simpa [← hl] using h1
    | succ i =>
      have := TyL.elem hc h2 i (by omega)
      rw [show (i + 1) * c = a.length + i * c by rw [Nat.succ_mul, hl]; omega, List.drop_append, List.drop_eq_nil_of_le (by omega), List.nil_append, Nat.add_sub_cancel_left]
      exact this
theorem build (T : TypeId → List AV → Prop) : ∀ (ts : List TypeId) (cs : List Value), cs.length = (ts.map P.cellsOf).sum →
    (∀ (j : Nat) t, ts[j]? = some t → ∃ as, VL ok w as ρ0 ((cs.drop ((ts.take j).map P.cellsOf).sum).take (P.cellsOf t)) ∧ T t as) → ∃ as, VL ok w as ρ0 cs ∧ TyL T ts as
  | [], cs, hl, _ => by
    obtain rfl : cs = [] := by simpa using hl
    exact ⟨[], by simp [VL], rfl⟩
  | t :: ts, cs, hl, H => by
    obtain ⟨a, ha, hT⟩ := H 0 t rfl
    obtain ⟨r, hr, hR⟩ := build T ts (cs.drop (P.cellsOf t)) (by simp at hl ⊢; omega) (fun j u hj => by
      obtain ⟨as, h1, h2⟩ := H (j + 1) u (by simpa using hj)
      refine ⟨as, ?_, h2⟩
      rw [List.drop_drop]
      simpa using h1)
    refine ⟨a ++ r, ?_, a, r, rfl, hT, hR⟩
    have := VL_app ha hr
    simpa using this
theorem VAt_app {ok : Nat → Prop} {w : World} : ∀ {a b : List AV} {ρ : Rho} {r p : Nat}, VAt ok w a ρ r p → VAt ok w b ρ r (p + a.length) → VAt ok w (a ++ b) ρ r p
  | [], b, ρ, r, p, _, h => by simpa using h
  | x :: a, b, ρ, r, p, h1, h2 => by
    simp only [VAt, List.cons_append] at h1 ⊢
    exact ⟨h1.1, VAt_app h1.2 (by rw [show p + 1 + a.length = p + (x :: a).length by simp; omega]; exact h2)⟩
theorem VAt_of_cells {ok : Nat → Prop} {w : World} {ρ : Rho} {r : Nat} : ∀ {as : List AV} {us : List Value} {p : Nat}, VL ok w as ρ us → (∀ i (h : i < us.length), w.cell? ⟨r, p + i, none⟩ = some us[i]) → VAt ok w as ρ r p
  | [], us, p, _, _ => by simp only [VAt]
  | a :: as, us, p, h, H => by
    simp only [VL] at h
    obtain ⟨u, rest, rfl, h1, h2⟩ := h
    simp only [VAt]
    refine ⟨⟨u, H 0 (by simp), h1⟩, VAt_of_cells h2 fun i hi => ?_⟩
    have := H (i + 1) (by simpa using hi)
    rw [show p + 1 + i = p + (i + 1) by omega]
    simpa using this
theorem buildAt (T : TypeId → List AV → Prop) (e : TypeId) (c r : Nat) (hc : ∀ as, T e as → as.length = c) : ∀ (len p : Nat),
    (∀ i, i < len → ∃ us as, us.length = c ∧ (∀ j (h : j < us.length), w.cell? ⟨r, p + i * c + j, none⟩ = some us[j]) ∧ VL ok w as ρ0 us ∧ T e as) → ∃ cs, VAt ok w cs ρ0 r p ∧ TyL T (List.replicate len e) cs
  | 0, p, _ => ⟨[], by simp only [VAt], rfl⟩
  | len + 1, p, H => by
    obtain ⟨us, as, h1, h2, h3, h4⟩ := H 0 (by omega)
    obtain ⟨cs, k1, k2⟩ := buildAt T e c r hc len (p + c) (fun i hi => by
      obtain ⟨us, as, h1, h2, h3, h4⟩ := H (i + 1) (by omega)
      refine ⟨us, as, h1, fun j hj => ?_, h3, h4⟩
      rw [show p + c + i * c + j = p + (i + 1) * c + j by rw [Nat.succ_mul]; omega]
      exact h2 j hj)
    refine ⟨as ++ cs, VAt_app (VAt_of_cells h3 fun i hi => ?_) ?_, ?_⟩
    · simpa using h2 i hi
    · rw [hc as h4]; exact k1
    · rw [List.replicate_succ]; exact ⟨as, cs, rfl, h4, k2⟩
theorem cells_get {w : World} {base : Nat} {a : Addr} {n : Nat} {us : List Value} (h : w.cells? base a n = some us) : us.length = n ∧ ∀ j (hj : j < us.length), w.cell? (a.add j) = some us[j] := by
  unfold World.cells? at h
  split at h
  · have h1 := mapM_some_length h
    refine ⟨by simpa using h1, fun j hj => ?_⟩
    have := mapM_some_get h j j (by rw [List.getElem?_range (by simp at h1; omega)])
    rw [this, List.getElem?_eq_getElem hj]
  · cases h
/-- Types of plain data, closed under their parts. -/
def plainRow (P : Program) (ts : List TypeId) (t : TypeId) : Bool := decide (t < P.types.size) && match P.underlying t with
  | some .bool | some .string => P.cellsOf t == 1
  | some (.int _) => P.cellsOf t == 1
  | some (.struct fs) => fs.toList.all fun f => ts.contains f.type
  | some (.array _ e) => ts.contains e
  | some (.slice e) => P.cellsOf t == 1 && ts.contains e && decide (0 < P.cellsOf e)
  | _ => false
def closedB (P : Program) (ts : List TypeId) : Bool := ts.all (plainRow P ts)
theorem closed_row {ts : List TypeId} (h : closedB P ts = true) {t : TypeId} (ht : t ∈ ts) : plainRow P ts t = true := List.all_eq_true.1 h t ht
variable {H : Type} {enc : TypeId × Value → H} {base : Nat} {spare : Nat → Bool}
/-- WHAT CAME IN, AS A TYPED ROW. -/
theorem av_open (hl : laidOutB P = true) {ts : List TypeId} (hc : closedB P ts = true) : ∀ (n : Nat) (t : TypeId) (cs : List Value) (x : DataW H × List MemPlace), t ∈ ts →
    DataW.trod enc P w base spare true n t cs = some x → (∀ p ∈ x.2, p.block < w.heap.size) → ∃ as, VL (· < w.heap.size) w as ρ0 cs ∧ TyC P n t as := by
  intro n
  induction n with
  | zero => intro t cs x ht h _; simp [DataW.trod] at h
  | succ n ih =>
    intro t cs x ht h hp
    have hr := closed_row hc ht
    unfold plainRow at hr
    rw [Bool.and_eq_true] at hr
    obtain ⟨hlt, hr⟩ := hr
    have hlt := of_decide_eq_true hlt
    cases hu : P.underlying t with
    | none => rw [hu] at hr; cases hr
    | some d =>
      rw [hu] at hr
      cases d with
      | bool =>
        obtain ⟨b, rfl, _⟩ := DataW.trod_bool hu h
        refine ⟨[.bool b], by simp [VL, V], (beq_iff_eq.1 hr).symm, ?_⟩
        rw [hu]; exact ⟨b, rfl⟩
      | int k =>
        obtain ⟨m, rfl, _, hw⟩ := DataW.trod_int hu h
        refine ⟨[.int (maxN k) m], by simp [VL, V], (beq_iff_eq.1 hr).symm, ?_⟩
        rw [hu]; exact ⟨m, rfl, hw⟩
      | string =>
        obtain ⟨s, rfl, _, hs⟩ := DataW.trod_string hu h
        refine ⟨[.str (s.data.toList.map UInt8.toNat)], by simp [VL, V], (beq_iff_eq.1 hr).symm, ?_⟩
        rw [hu]
        refine ⟨_, rfl, ?_, ?_⟩
        · intro b hb
          obtain ⟨c, _, rfl⟩ := List.mem_map.1 hb
          exact c.toNat_lt
        · simpa using hs
      | struct fs =>
        obtain ⟨xs, m, hm, rfl, hlen, hx, hel⟩ := DataW.trod_struct hu h
        obtain rfl := Nat.succ.inj hm
        obtain ⟨_, h2, h3⟩ := kid_struct hl hlt hu
        have hin : ∀ f ∈ fs.toList, f.type ∈ ts := fun f hf => by simpa using List.all_eq_true.1 hr f hf
        obtain ⟨as, hv, hT⟩ := build (P := P) (w := w) (ok := (· < w.heap.size)) (TyC P n) (fs.toList.map (·.type)) cs (by rw [hlen, h2, List.map_map]; rfl) (fun j u hj => by
          simp only [List.getElem?_map, Option.map_eq_some_iff] at hj
          obtain ⟨f, hf, rfl⟩ := hj
          have hj' : j < xs.length := by rw [hx]; simpa using (List.getElem?_eq_some_iff.1 hf).1
          have e := hel j f (by simpa using hf)
          rw [List.getElem?_eq_getElem hj', h3 j f hf] at e
          obtain ⟨as, k1, k2⟩ := ih f.type _ _ (hin f (List.mem_of_getElem? hf)) e (fun p hp' => hp p (List.mem_flatMap.2 ⟨_, List.getElem_mem hj', hp'⟩))
          refine ⟨as, ?_, k2⟩
          rw [← List.map_take, List.map_map]
          exact k1)
        refine ⟨as, hv, by rw [← VL_len hv]; exact hlen, ?_⟩
        rw [hu]; exact hT
      | array m e =>
        obtain ⟨xs, k, hk, rfl, hlen, hx, hel⟩ := DataW.trod_array hu h
        obtain rfl := Nat.succ.inj hk
        have h2 := (kid_array hl hlt hu).2
        obtain ⟨as, hv, hT⟩ := build (P := P) (w := w) (ok := (· < w.heap.size)) (TyC P n) (List.replicate m e) cs (by rw [hlen, h2, List.map_replicate, sum_rep]) (fun j u hj => by
          rw [List.getElem?_replicate] at hj
          by_cases hj1 : j < m
          case neg => rw [if_neg hj1] at hj; cases hj
          rw [if_pos hj1] at hj
          cases hj
          have hj' : j < xs.length := by omega
          have e := hel j hj1
          rw [List.getElem?_eq_getElem hj'] at e
          obtain ⟨as, k1, k2⟩ := ih _ _ _ (by simpa using hr) e (fun p hp' => hp p (List.mem_flatMap.2 ⟨_, List.getElem_mem hj', hp'⟩))
          refine ⟨as, ?_, k2⟩
          rw [List.take_replicate, List.map_replicate, sum_rep, show min j m = j by omega]
          exact k1)
        refine ⟨as, hv, by rw [← VL_len hv]; exact hlen, ?_⟩
        rw [hu]; exact hT
      | slice e =>
        rw [Bool.and_eq_true, Bool.and_eq_true] at hr
        obtain ⟨⟨hr1, hr2⟩, hr3⟩ := hr
        have hr3 := of_decide_eq_true hr3
        rcases DataW.trod_slice hu h with ⟨rfl, _⟩ | ⟨a, len, cap, elems, rest, k, hk, rfl, rfl, hb, hlc, hcm, hn, hel, _, _⟩
        · refine ⟨[.nils], by simp [VL, V], (beq_iff_eq.1 hr1).symm, ?_⟩
          rw [hu]; exact .inl rfl
        obtain rfl := Nat.succ.inj hk
        by_cases h0 : len = 0
        · subst h0
          refine ⟨[.sle], by simp [VL, V], (beq_iff_eq.1 hr1).symm, ?_⟩
          rw [hu]; exact .inr (.inl rfl)
        obtain ⟨b, off, spot⟩ := a
        have hfirst := hel 0 (by omega)
        rw [List.getElem?_eq_getElem (by omega), Option.bind_eq_some_iff] at hfirst
        obtain ⟨us0, hc0, _⟩ := hfirst
        have hspot : spot = none := by
          obtain ⟨g1, g2⟩ := cells_get hc0
          simpa [Addr.add] using World.cell?_spot (g2 0 (by omega))
        subst hspot
        have hblt : b < w.heap.size := by
          have hmem : MemPlace.cell b off ∈ MemPlace.row ⟨b, off, none⟩ ((elems.length + rest.length) * P.cellsOf e) := by
            refine List.mem_map.2 ⟨0, List.mem_range.2 (Nat.mul_pos (by omega) hr3), rfl⟩
          exact hp _ (List.mem_append_left _ hmem)
        obtain ⟨as, k1, k2⟩ := buildAt (w := w) (ok := (· < w.heap.size)) (TyC P n) e (P.cellsOf e) b (fun as h => h.len) len off (fun i hi => by
          have e1 := hel i hi
          rw [List.getElem?_eq_getElem (by omega), Option.bind_eq_some_iff] at e1
          obtain ⟨us, c1, c2⟩ := e1
          obtain ⟨g1, g2⟩ := cells_get c1
          obtain ⟨as, v1, v2⟩ := ih e us _ (by simpa using hr2) c2 (fun p hp' => hp p (List.mem_append_right _ (List.mem_flatMap.2 ⟨_, List.mem_append_left _ (List.getElem_mem (by omega)), hp'⟩)))
          refine ⟨us, as, g1, fun j hj => ?_, v1, v2⟩
          have := g2 j hj
          rwa [Go.WideShapes.add_plain, Go.WideShapes.add_plain] at this)
        refine ⟨[.slp as len], ?_, (beq_iff_eq.1 hr1).symm, ?_⟩
        · simp only [VL, V]
          exact ⟨_, _, rfl, ⟨b, off, cap, hblt, rfl, hlc, k1⟩, rfl⟩
        · rw [hu]; exact .inr (.inr ⟨as, len, rfl, by omega, by omega, k2⟩)
      | _ => cases hr
end
end Go.Proofs.YtdkioifmieamoaaGreatDoor
namespace Go.Proofs.YtdkioifmieamoaaGreatDoor
set_option linter.unusedSimpArgs false
set_option linter.unusedVariables false
set_option linter.unnecessarySimpa false
section
variable {C : Cx} {run : Run} {lp : Lp} {s : St} {h : AH} {κ : Ka}
/- numbers, plain tests -/
theorem nbeq (a b : Nat) : Nat.beq a b = decide (a = b) := by
  by_cases e : a = b
  · subst e; simp
  · have : Nat.beq a b = false := by rw [Bool.eq_false_iff]; intro c; exact e (Nat.eq_of_beq_eq_true c)
    rw [this]; simp [e]
theorem nble (a b : Nat) : Nat.ble a b = decide (a ≤ b) := by
  by_cases e : a ≤ b
  · rw [Nat.ble_eq_true_of_le e]; simp [e]
  · have : Nat.ble a b = false := by rw [Bool.eq_false_iff]; intro c; exact e (Nat.le_of_ble_eq_true c)
    rw [this]; simp [e]
theorem nblt (a b : Nat) : Nat.blt a b = decide (a < b) := nble _ _
theorem ibeqE (a b : Int) : ibeq a b = decide (a = b) := by
  cases a <;> cases b <;> simp [ibeq, nbeq] <;> omega
theorem ibltE (a b : Int) : iblt a b = decide (a < b) := by
  cases a <;> cases b <;> simp [iblt, nblt] <;> omega
theorem iltE (a b : Int) : ilt a b = decide (a < b) := ibltE a b
theorem igtE (a b : Int) : igt a b = decide (b < a) := ibltE b a
theorem ileE (a b : Int) : ile a b = decide (a ≤ b) := by
  unfold ile; rw [ibltE]; by_cases h : a ≤ b <;> simp [h] <;> omega
theorem igeE (a b : Int) : ige a b = decide (b ≤ a) := by
  unfold ige; rw [ibltE]; by_cases h : b ≤ a <;> simp [h] <;> omega
theorem ineE (a b : Int) : ine a b = decide (a ≠ b) := by
  unfold ine; rw [ibeqE]; simp
theorem bq_dec_pos {α : Type} {p : Prop} [Decidable p] (h : p) (a b : α) : bq (decide p) a b = a := by rw [decide_eq_true h]; rfl
theorem bq_dec_neg {α : Type} {p : Prop} [Decidable p] (h : ¬p) (a b : α) : bq (decide p) a b = b := by rw [decide_eq_false h]; rfl
theorem iaddE (a b : Int) : iadd a b = a + b := by
  cases a <;> cases b <;> simp [iadd] <;> rfl
theorem isubE (a b : Int) : isub a b = a - b := by
  cases a with
  | ofNat m => cases b with
    | ofNat n =>
      show bq (Nat.ble n m) (Int.ofNat (Nat.sub m n)) (Int.sub (.ofNat m) (.ofNat n)) = _
      rw [nble]
      by_cases h : n ≤ m
      · rw [bq_dec_pos h]
        show ((m - n : Nat) : Int) = (m : Int) - (n : Int)
        omega
      · rw [bq_dec_neg h]; rfl
    | negSucc n => rfl
  | negSucc m => rfl
theorem imulE (a b : Int) : imul a b = a * b := by
  cases a <;> cases b <;> simp [imul] <;> rfl
theorem wrapS_i64 (n : Int) : wrapS 9223372036854775807 n = IntKind.i64.wrap n := (rfl)
theorem wrapS_u64 (n : Int) : wrapS 18446744073709551615 n = IntKind.u64.wrap n := (rfl)
theorem wrapS_u8 (n : Int) : wrapS 255 n = IntKind.u8.wrap n := (rfl)
theorem wrap_i64_id {n : Int} (h1 : -9223372036854775808 ≤ n) (h2 : n ≤ 9223372036854775807) : IntKind.i64.wrap n = n := by
  simp [IntKind.wrap, IntKind.min, IntKind.max, IntKind.signed, IntKind.bits]; omega
theorem wrap_u64_id {n : Int} (h1 : 0 ≤ n) (h2 : n ≤ 18446744073709551615) : IntKind.u64.wrap n = n := by
  simp [IntKind.wrap, IntKind.min, IntKind.max, IntKind.signed, IntKind.bits]; omega
theorem wrap_u8_id {n : Int} (h1 : 0 ≤ n) (h2 : n ≤ 255) : IntKind.u8.wrap n = n := by
  simp [IntKind.wrap, IntKind.min, IntKind.max, IntKind.signed, IntKind.bits]; omega
/-- A number that fits stays. -/
theorem wrapA_of {m : Nat} {k : IntKind} (hk : ∀ n, wrapS m n = k.wrap n) (hm : ∀ n : Nat, n ≤ m → k.wrap n = n) (n : Int) : wrapA m n = k.wrap n := by
  cases n with
  | ofNat a =>
    show bq (Nat.ble a m) (Int.ofNat a) (wrapS m (.ofNat a)) = _
    rw [nble]
    by_cases h : a ≤ m
    · rw [bq_dec_pos h]; exact (hm a h).symm
    · rw [bq_dec_neg h, hk]
  | negSucc a => exact hk _
theorem wrapA_i64 {n : Int} (h1 : -9223372036854775808 ≤ n) (h2 : n ≤ 9223372036854775807) : wrapA 9223372036854775807 n = n := by
  rw [wrapA_of wrapS_i64 (fun a ha => wrap_i64_id (by omega) (by omega)), wrap_i64_id h1 h2]
theorem wrapA_u64 {n : Int} (h1 : 0 ≤ n) (h2 : n ≤ 18446744073709551615) : wrapA 18446744073709551615 n = n := by
  rw [wrapA_of wrapS_u64 (fun a ha => wrap_u64_id (by omega) (by omega)), wrap_u64_id h1 h2]
theorem wrapA_u8 {n : Int} (h1 : 0 ≤ n) (h2 : n ≤ 255) : wrapA 255 n = n := by
  rw [wrapA_of wrapS_u8 (fun a ha => wrap_u8_id (by omega) (by omega)), wrap_u8_id h1 h2]
theorem wrapA_u64' (n : Int) : wrapA 18446744073709551615 n = IntKind.u64.wrap n := wrapA_of wrapS_u64 (fun a ha => wrap_u64_id (by omega) (by omega)) n
theorem wrapA_i64' (n : Int) : wrapA 9223372036854775807 n = IntKind.i64.wrap n := wrapA_of wrapS_i64 (fun a ha => wrap_i64_id (by omega) (by omega)) n
theorem wrapA_u8' (n : Int) : wrapA 255 n = IntKind.u8.wrap n := wrapA_of wrapS_u8 (fun a ha => wrap_u8_id (by omega) (by omega)) n
theorem irem_nat (a b : Nat) : irem (a : Int) (b : Int) = ((a % b : Nat) : Int) := (rfl)
theorem iquo_nat (a b : Nat) : iquo (a : Int) (b : Int) = ((a / b : Nat) : Int) := (rfl)
theorem irem_pos {a b : Int} (ha : 0 ≤ a) (hb : 0 ≤ b) : irem a b = a % b := by
  obtain ⟨m, rfl⟩ : ∃ m : Nat, a = m := ⟨a.toNat, by omega⟩
  obtain ⟨n, rfl⟩ : ∃ n : Nat, b = n := ⟨b.toNat, by omega⟩
  rfl
theorem iquo_pos {a b : Int} (ha : 0 ≤ a) (hb : 0 ≤ b) : iquo a b = a / b := by
  obtain ⟨m, rfl⟩ : ∃ m : Nat, a = m := ⟨a.toNat, by omega⟩
  obtain ⟨n, rfl⟩ : ∃ n : Nat, b = n := ⟨b.toNat, by omega⟩
  rfl
/- code -/
theorem kNrm_st (t : Tms) (h : AH) : kNrm (some (.st t h)) = some (.nrm, ⟨t, h⟩) := (rfl)
theorem kThen_nrm (b : Kr) (s : St) : kThen b (.nrm, s) = b s := (rfl)
theorem kThen_ret (b : Kr) (s : St) : kThen b (.ret, s) = some (.ret, s) := (rfl)
theorem kThen_exit (b : Kr) (s : St) (i : Nat) : kThen b (.exit i, s) = some (.exit i, s) := (rfl)
theorem kOut_nrm (id : Nat) (s : St) : kOut id (.nrm, s) = some (.nrm, s) := (rfl)
theorem kOut_ret (id : Nat) (s : St) : kOut id (.ret, s) = some (.ret, s) := (rfl)
theorem kOut_exit (id i : Nat) (s : St) : kOut id (.exit i, s) = bq (decide (i = id)) (some (.nrm, s)) (some (.exit i, s)) := by rw [← nbeq]; rfl
theorem kIf_b (c : Bool) (a b : Kr) (s : St) : kIf (.bool c) a b s = bq c (a s) (b s) := (rfl)
/- operations -/
theorem moveA_eq (x : AV) : moveA x h κ = κ x h := (rfl)
theorem pickA_eq (c : Bool) (a b : AV) : pickA (.bool c) a b h κ = κ (bq c a b) h := (rfl)
theorem boxA_eq (y : Nat) (x : AV) : boxA y x h κ = bq x.nb (κ (.pto h.length 0) (h ++ [some (.cells x.cells y)])) none := by
  unfold boxA newA; rw [flen_eq, fapp_eq]
theorem newA_eq (b : Blk) : newA h b κ = κ (.pto h.length 0) (h ++ [some b]) := by unfold newA; rw [flen_eq, fapp_eq]
theorem cmp_eq (g : Int → Int → Bool) (k : Nat) (a b : Int) : cmp g (.int k a) (.int k b) h κ = κ (.bool (g a b)) h := by
  show bq (Nat.beq k k) _ _ = _
  rw [Nat.beq_refl]; rfl
theorem arith_eq (g : Int → Int → Int) (k : Nat) (a b : Int) : arith g (.int k a) (.int k b) h κ = κ (.int k (wrapA k (g a b))) h := by
  show bq (Nat.beq k k) _ _ = _
  rw [Nat.beq_refl]; rfl
theorem remA_eq (k : Nat) (a b : Int) : remA (.int k a) (.int k b) h κ = bq (decide (b ≠ 0)) (κ (.int k (irem a b)) h) none := by
  show bq (and (Nat.beq k k) (not (ibeq b (.ofNat 0)))) _ _ = _
  rw [Nat.beq_refl, ibeqE]; simp
theorem notA_eq (b : Bool) : notA (.bool b) h κ = κ (.bool (not b)) h := (rfl)
theorem moveP_o (n b o : Nat) : moveP n (.pto b o) h κ = κ (.pto b (o + n)) h := (rfl)
theorem moveP_p (n : Nat) (cs : List AV) (o : Nat) : moveP n (.ptp cs o) h κ = κ (.ptp cs (o + n)) h := (rfl)
theorem blkC_cells (cs : List AV) (y : Nat) (f : List AV → Nat → Option Rs) (g : Nat → List (List AV) → Nat → Option Rs) : blkR (.cells cs y) f g = f cs y := (rfl)
theorem load1_o (b o : Nat) : load1 (.pto b o) h κ = obind (hget h b) fun B => blkR B (fun cs _ => obind cs[o]? fun v => κ v h) (fun z ll _ => ld1R κ h o z ll) := by
  show cellsR h b (fun cs _ => ld1C κ h o cs) _ = _
  unfold cellsR ld1C withV
  simp only [fgetL_eq]
theorem load1_p (cs : List AV) (o : Nat) : load1 (.ptp cs o) h κ = obind cs[o]? fun v => κ v h := by
  show obind (fgetL cs o) _ = _
  rw [fgetL_eq]
theorem loadG_o (n b o : Nat) : loadG n (.pto b o) h κ = obind (hget h b) fun B => blkR B (fun cs _ => bq (decide (o + n ≤ cs.length)) (κ (.agg ((cs.drop o).take n)) h) none) (fun z ll _ => ldGR n κ h o z ll) := by
  show cellsR h b (fun cs _ => ldGC n κ h o cs) _ = _
  unfold cellsR ldGC partV
  simp only [ftake_eq, fdrop_eq, nble, flen_eq, Nat.add_eq]
theorem loadG_p (n : Nat) (cs : List AV) (o : Nat) : loadG n (.ptp cs o) h κ = bq (decide (o + n ≤ cs.length)) (κ (.agg ((cs.drop o).take n)) h) none := by
  show ldGC n κ h o cs = _
  unfold ldGC partV
  simp only [ftake_eq, fdrop_eq, nble, flen_eq, Nat.add_eq]
theorem store1_o (b o : Nat) (v : AV) : store1 (.pto b o) v h κ = bq v.plain (obind (hget h b) fun B => blkR B (fun cs y => obind cs[o]? fun _ => κ (.tup []) (h.set b (some (.cells (cs.set o v) y)))) (st1R v κ h b o)) none := by
  show bq v.plain (cellsR h b (st1C v κ h b o) _) none = _
  unfold cellsR
  simp only [show st1C v κ h b o = fun cs y => obind (fgetL cs o) fun _ => κ (.tup []) (fset (some (.cells (fset v cs o) y)) h b) from rfl]
  simp only [fgetL_eq, fset_eq]
theorem storeG_o (n b o : Nat) (vs : List AV) : storeG n (.pto b o) (.agg vs) h κ = bq (and (decide (vs.length = n)) (plains vs)) (obind (hget h b) fun B => blkR B (fun cs y => bq (decide (o + vs.length ≤ cs.length)) (κ (.tup []) (h.set b (some (.cells (cs.take o ++ (vs ++ cs.drop (o + vs.length))) y)))) none) (stGR n vs κ h b o)) none := by
  show stGO n κ h vs b o = _
  unfold stGO cellsR
  simp only [show stGC vs κ h b o = fun cs y => bq (Nat.ble (Nat.add o (flen vs)) (flen cs)) (κ (.tup []) (fset (some (.cells (fapp (ftake o cs) (fapp vs (fdrop (Nat.add o (flen vs)) cs))) y)) h b)) none from rfl]
  simp only [flen_eq, nbeq, nble, fset_eq, fapp_eq, ftake_eq, fdrop_eq, Nat.add_eq]
theorem lenS_nils : lenS .nils h κ = κ (.int 9223372036854775807 0) h := (rfl)
theorem lenS_sle : lenS .sle h κ = κ (.int 9223372036854775807 0) h := (rfl)
theorem lenS_p (cs : List AV) (n : Nat) : lenS (.slp cs n) h κ = κ (.int 9223372036854775807 n) h := (rfl)
theorem lenS_o (b o l c z : Nat) (e : Bool) : lenS (.slo b o l c z e) h κ = κ (.int 9223372036854775807 l) h := (rfl)
theorem lenT_eq (l : List Nat) : lenT (.str l) h κ = κ (.int 9223372036854775807 l.length) h := by
  show κ (.int _ (.ofNat (flen l))) h = _
  rw [flen_eq]; rfl
theorem idxS_p (sz : Nat) (cs : List AV) (len k i : Nat) : idxS sz (.slp cs len) (.int k (i : Int)) h κ = bq (decide (i < len)) (κ (.ptp cs (i * sz)) h) none := by
  show bq (Nat.blt i len) _ _ = _
  rw [nblt]; rfl
theorem quoA_eq (k : Nat) (a b : Int) : quoA (.int k a) (.int k b) h κ = bq (decide (b ≠ 0)) (κ (.int k (wrapA k (iquo a b))) h) none := by
  show bq (and (Nat.beq k k) (not (ibeq b (.ofNat 0)))) _ _ = _
  rw [Nat.beq_refl, ibeqE]; simp
theorem negA_eq (k : Nat) (n : Int) : negA (.int k n) h κ = κ (.int k (wrapA k (isub (.ofNat 0) n))) h := (rfl)
theorem cvI_eq (m k : Nat) (n : Int) : cvI m (.int k n) h κ = κ (.int m (wrapA m n)) h := (rfl)
theorem idxS_o (sz b o l c : Nat) (e : Bool) (k i : Nat) : idxS sz (.slo b o l c sz e) (.int k (i : Int)) h κ = bq (decide (i < l)) (κ (.pto b (o + i * sz)) h) none := by
  show bq (Nat.blt i l) (bq (Nat.beq sz sz) _ _) _ = _
  rw [nblt, Nat.beq_refl]; rfl
theorem idxT_eq (l : List Nat) (k i : Nat) : idxT (.str l) (.int k (i : Int)) h κ = obind l[i]? fun b => κ (.int 255 b) h := by
  show obind (fget l i) _ = _
  rw [fget_eq]; rfl
theorem idxA_o (n sz b o k i : Nat) : idxA n sz (.pto b o) (.int k (i : Int)) h κ = bq (decide (i < n)) (κ (.pto b (o + i * sz)) h) none := by
  show bq (Nat.blt i n) _ _ = _
  rw [nblt]; rfl
theorem idxV1_eq (n sz : Nat) (cs : List AV) (k i : Nat) : idxV1 n sz (.agg cs) (.int k (i : Int)) h κ = bq (decide (i < n)) (obind cs[i * sz]? fun v => κ v h) none := by
  show bq (Nat.blt i n) (obind (fgetL cs (i * sz)) _) none = _
  rw [nblt, fgetL_eq]
theorem fld1_eq (off : Nat) (cs : List AV) : fld1 off (.agg cs) h κ = obind cs[off]? fun v => κ v h := by
  show obind (fgetL cs off) _ = _
  rw [fgetL_eq]
theorem fldG_eq (off n : Nat) (cs : List AV) : fldG off n (.agg cs) h κ = bq (decide (off + n ≤ cs.length)) (κ (.agg ((cs.drop off).take n)) h) none := by
  show ldGC n κ h off cs = _
  unfold ldGC partV
  simp only [ftake_eq, fdrop_eq, nble, flen_eq, Nat.add_eq]
theorem extA_eq (i : Nat) (cs : List AV) : extA i (.tup cs) h κ = obind cs[i]? fun v => κ v h := by
  show obind (fgetL cs i) _ = _
  rw [fgetL_eq]
theorem nilCk_o (b o : Nat) : nilCk (.pto b o) h κ = κ (.pto b o) h := (rfl)
theorem nilCk_p (cs : List AV) (o : Nat) : nilCk (.ptp cs o) h κ = κ (.ptp cs o) h := (rfl)
theorem strAdd_eq (a b : List Nat) : strAdd (.str a) (.str b) h κ = bq (decide (a.length + b.length ≤ 9223372036854775807)) (κ (.str (a ++ b)) h) none := by
  show bq (Nat.ble (Nat.add (flen a) (flen b)) _) (κ (.str (fapp a b)) h) none = _
  rw [nble, flen_eq, flen_eq, fapp_eq]; rfl
theorem strCmp_eq (g : List Nat → List Nat → Bool) (a b : List Nat) : strCmp g (.str a) (.str b) h κ = κ (.bool (g a b)) h := (rfl)
theorem withX_some (v : AV) (h' : AH) : withX κ (some (v, h')) = κ v h' := (rfl)
theorem withX_none : withX κ none = none := (rfl)
theorem plains_nil : plains [] = true := (rfl)
theorem plains_cons (v : AV) (r : List AV) : plains (v :: r) = and v.plain (plains r) := (rfl)
theorem plain_int (k : Nat) (n : Int) : (AV.int k n).plain = true := (rfl)
theorem plain_bool (b : Bool) : (AV.bool b).plain = true := (rfl)
theorem plain_str (l : List Nat) : (AV.str l).plain = true := (rfl)
theorem plain_nils : AV.nils.plain = true := (rfl)
theorem plain_nil : AV.nil.plain = true := (rfl)
theorem plain_sle : AV.sle.plain = true := (rfl)
theorem plain_slp (cs : List AV) (n : Nat) : (AV.slp cs n).plain = true := (rfl)
theorem plain_slo (b o l c z : Nat) (e : Bool) : (AV.slo b o l c z e).plain = true := (rfl)
theorem plain_pto (b o : Nat) : (AV.pto b o).plain = true := (rfl)
theorem plain_ptp (cs : List AV) (o : Nat) : (AV.ptp cs o).plain = true := (rfl)
theorem nb_agg (cs : List AV) : (AV.agg cs).nb = true := (rfl)
theorem nb_int (k : Nat) (n : Int) : (AV.int k n).nb = true := (rfl)
theorem nb_bool (b : Bool) : (AV.bool b).nb = true := (rfl)
theorem nb_str (l : List Nat) : (AV.str l).nb = true := (rfl)
theorem nb_slp (cs : List AV) (n : Nat) : (AV.slp cs n).nb = true := (rfl)
theorem nb_nils : AV.nils.nb = true := (rfl)
theorem nb_sle : AV.sle.nb = true := (rfl)
theorem nb_slo (b o l c z : Nat) (e : Bool) : (AV.slo b o l c z e).nb = true := (rfl)
theorem cells_agg (cs : List AV) : (AV.agg cs).cells = cs := (rfl)
theorem cells_int (k : Nat) (n : Int) : (AV.int k n).cells = [.int k n] := (rfl)
theorem cells_bool (b : Bool) : (AV.bool b).cells = [.bool b] := (rfl)
theorem cells_str (l : List Nat) : (AV.str l).cells = [.str l] := (rfl)
/- the heap -/
theorem hget_top (h : AH) (x : Option Blk) : hget (h ++ [x]) h.length = x := by rw [hget_eq]; simp
theorem hget_zero (x : Option Blk) (l : AH) : hget (x :: l) 0 = x := (rfl)
theorem hget_succ (x : Option Blk) (l : AH) (n : Nat) : hget (x :: l) (n + 1) = hget l n := (rfl)
theorem hget_old {h : AH} {n : Nat} (hn : n < h.length) (l : AH) : hget (h ++ l) n = hget h n := by rw [hget_eq, hget_eq, List.getElem?_append_left hn]
theorem hget_set_same {h : AH} {n : Nat} (hn : n < h.length) (v : Option Blk) : hget (h.set n v) n = v := by rw [hget_eq]; simp [hn]
theorem hget_set_ne {h : AH} {n m : Nat} (hn : n ≠ m) (v : Option Blk) : hget (h.set n v) m = hget h m := by rw [hget_eq, hget_eq, List.getElem?_set_ne hn]
theorem set_top (h : AH) (x v : Option Blk) : (h ++ [x]).set h.length v = h ++ [v] := by
  rw [List.set_append_right _ _ (Nat.le_refl _)]; simp
theorem hget_of_lt {h : AH} {n : Nat} {b : Blk} (e : hget h n = some b) : n < h.length := hget_lt (by rw [e]; simp)
theorem lt_agg (k : Nat) (cs : List AV) : (AV.agg cs).lt k = ltL k cs := (rfl)
theorem lt_tup (k : Nat) (cs : List AV) : (AV.tup cs).lt k = ltL k cs := (rfl)
theorem lt_int (k m : Nat) (n : Int) : (AV.int m n).lt k = true := (rfl)
theorem lt_bool (k : Nat) (b : Bool) : (AV.bool b).lt k = true := (rfl)
theorem lt_str (k : Nat) (l : List Nat) : (AV.str l).lt k = true := (rfl)
theorem lt_nils (k : Nat) : AV.nils.lt k = true := (rfl)
theorem lt_sle (k : Nat) : AV.sle.lt k = true := (rfl)
theorem lt_nil (k : Nat) : AV.nil.lt k = true := (rfl)
theorem lt_slp (k : Nat) (cs : List AV) (n : Nat) : (AV.slp cs n).lt k = true := (rfl)
theorem lt_ptp (k : Nat) (cs : List AV) (n : Nat) : (AV.ptp cs n).lt k = true := (rfl)
theorem lt_pto (k b o : Nat) : (AV.pto b o).lt k = decide (b < k) := nblt b k
theorem lt_slo (k b o l c z : Nat) (e : Bool) : (AV.slo b o l c z e).lt k = decide (b < k) := nblt b k
/- calls, loops -/
theorem callA_memo {f : Nat} {args : List AV} {v : AV} (hx : C.ext f = none) (hp : ltL 0 args = true) (hm : C.memo f args = some v) (ho : C.own f = false := by kernel_rfl) : callA C run f args h = some (v, h) := by
  unfold callA
  rw [hx, ho, hp, hm]; rfl
theorem callA_pure {f : Nat} {args : List AV} {r : AV} {h1 : AH} (hx : C.ext f = none) (hp : ltL 0 args = true) (hm : C.memo f args = none) (hr : run f args [] = some (r, h1)) (hl : r.lt 0 = true) (ho : C.own f = false := by kernel_rfl) : callA C run f args h = some (r, h) := by
  unfold callA
  rw [hx, ho, hp, hm, hr]
  show bq true (obind (some (r, h1)) (importA C f h)) _ = _
  rw [bq_true, obind_some]
  unfold importA
  rw [hl]; rfl
theorem callA_ext {f : Nat} {args : List AV} {g : List AV → AH → Option (AV × AH)} (hx : C.ext f = some g) : callA C run f args h = g args h := by
  unfold callA
  rw [hx]
theorem rl_run (n : Nat) : (rl C (n + 1)).run = runF C (rl C n).run (rl C n).lp := (rfl)
theorem rl_lp (n : Nat) (b : K) (s : St) : (rl C (n + 1)).lp b s = obind (kx C (rl C n).run (rl C n).lp b s) (kThen ((rl C n).lp b)) := (rfl)
end
end Go.Proofs.YtdkioifmieamoaaGreatDoor
namespace Go.Proofs.YtdkioifmieamoaaGreatDoor
set_option linter.unusedSimpArgs false
set_option linter.unusedVariables false
set_option linter.unnecessarySimpa false
open Go.RowKit
section
variable {H : Type} {enc : TypeId × Value → H}
/-- The wrap of a row that lists variables, the world's shape kept. -/
theorem returns_laid {a : Assume} {C : Checked} {os : Os} {f : FuncId} {fn : Func} {s : ChangeSpec} {conds : List PathCond} {apart fresh handsOn again : Bool} {X : World → Array Value → Prop}
    (hX : ∀ (w w' : World) (args : Array Value), w.heap = w'.heap → X w args → X w' args)
    (own : ownKnob C.prog.godebug = none) (started : os.Started) (noInit : C.prog.inits.idxOf? f = none) (hfn : C.prog.funcs[f]? = some fn)
    (witness : ∃ (w : World) (tape : Tape) (i : Input), w.os = os ∧ (w.forCall tape i).Shaped C.prog ∧ i.vars = [] ∧ Input.okWide C.prog (w.forCall tape i) .any w.heap.size f i ∧
      ((s.pre enc C.prog fn conds apart (w.forCall tape i).memory i.args ∧ X (w.forCall tape i).memory i.args) ∧ sizedMet enc C.prog fn (OpenSpec.ofChange s) apart (w.forCall tape i).memory i.args) ∧ a.holds C.prog (lone (Frame.enter C.prog f i.args .normal) [] (w.forCall tape i)))
    (contract : ∀ (W : World) (base : Nat) (args : Array Value) (ds gs : List (DataW H)) (before : List MemPlace),
      (∀ (j : Nat) t v, fn.params[j]? = some t → args[j]? = some v → Value.okWide C.prog W .any base t v) →
      DataW.Whole enc C.prog fn.params.toList s.vars apart W args.toList ds gs before →
      X W args → W.ShapedOpen C.prog →
      Calls C.prog f args W fun e W' => ∃ v, e = .returned v ∧ s.post enc C.prog fn apart fresh handsOn again W args v W') :
    ReturnsInHanded a C os f .any (fun w args => (s.pre enc C.prog fn conds apart w args ∧ X w args) ∧ sizedMet enc C.prog fn (OpenSpec.ofChange s) apart w args) (s.post enc C.prog fn apart fresh handsOn again) := by
  refine returnsInHanded_of_calls own started noInit witness ?_
  intro w tape i _ hsh _ hok hpre hholds
  obtain ⟨_, _, _, fn', hfn', _, _, _, _, hval⟩ := hok
  have e : fn' = fn := Option.some.inj (hfn'.symm.trans hfn)
  subst e
  obtain ⟨⟨⟨ds, gs, before, hw, hc⟩, hx⟩, hz⟩ := hpre
  have hw' := DataW.Whole.of_heap (w' := w.forCall tape i) (by rfl) hw
  refine (contract (w.forCall tape i) w.heap.size i.args ds gs before hval hw' (hX _ _ _ (by rfl) hx) hsh).mono fun e W' ⟨v, he, hp⟩ => ?_
  subst he
  exact ChangeSpec.post_blind hp
end
/-- A value of a type. -/
def TyV (P : Program) (n : Nat) (t : TypeId) (a : AV) : Prop := match P.underlying t with
  | some (.struct _) | some (.array _ _) => ∃ as, a = .agg as ∧ TyC P n t as
  | _ => TyC P n t [a]
/-- An argument that came in. -/
theorem av_arg {H : Type} {enc : TypeId × Value → H} {P : Program} (hl : laidOutB P = true) {ts : List TypeId} (hc : closedB P ts = true) {W : World} {base : Nat} {spare : Nat → Bool} {b : Nat} {t : TypeId} {v : Value} {d : DataW H} {p : List MemPlace}
    (ht : t ∈ ts) (hok : Value.okWide P W .any base t v) (h : DataW.Trod enc P W b spare true t v d p) (hp : ∀ x ∈ p, x.block < W.heap.size) : ∃ n a, V (· < W.heap.size) W a ρ0 v ∧ TyV P n t a := by
  obtain ⟨n, hn⟩ := h
  obtain ⟨as, h1, h2⟩ := av_open hl hc n t _ _ ht hn hp
  have hr := closed_row hc ht
  unfold plainRow at hr
  rw [Bool.and_eq_true] at hr
  have scal : ∀ v : Value, v.cells = #[v] → VL (· < W.heap.size) W as ρ0 v.cells.toList → ∃ a, as = [a] ∧ V (· < W.heap.size) W a ρ0 v := by
    intro v hv h
    rw [hv] at h
    match as, h with
    | [], h => simp [VL] at h
    | a :: r, h =>
      simp only [VL, List.cons.injEq] at h
      obtain ⟨u, r', ⟨rfl, rfl⟩, g1, g2⟩ := h
      match r, g2 with
      | [], _ => exact ⟨a, rfl, g1⟩
      | _ :: _, g => simp [VL] at g
  unfold TyV
  cases hu : P.underlying t with
  | none => rw [hu] at hr; cases hr.2
  | some D =>
    rw [hu] at hr
    cases D with
    | bool =>
      obtain ⟨x, rfl⟩ := Go.WideShapes.okWide_bool hu hok
      obtain ⟨a, rfl, g⟩ := scal _ rfl h1
      exact ⟨n, a, g, h2⟩
    | int k =>
      obtain ⟨x, rfl⟩ := Go.WideShapes.okWide_int hu hok
      obtain ⟨a, rfl, g⟩ := scal _ rfl h1
      exact ⟨n, a, g, h2⟩
    | string =>
      obtain ⟨x, rfl⟩ := Go.WideShapes.okWide_string hu hok
      obtain ⟨a, rfl, g⟩ := scal _ rfl h1
      exact ⟨n, a, g, h2⟩
    | slice e =>
      obtain ⟨x, l, c, rfl⟩ := Go.WideShapes.okWide_slice hu hok
      obtain ⟨a, rfl, g⟩ := scal _ rfl h1
      exact ⟨n, a, g, h2⟩
    | struct fs =>
      obtain ⟨cs, rfl, _⟩ := Go.WideShapes.okWide_struct hu hok
      exact ⟨n, .agg as, by simp only [V]; exact ⟨cs, rfl, h1⟩, as, rfl, h2⟩
    | array m e =>
      have : ∃ cs, v = .agg cs := by
        unfold Value.okWide at hok
        rw [hu] at hok
        obtain ⟨cs, h, _⟩ := hok
        exact ⟨cs, h⟩
      obtain ⟨cs, rfl⟩ := this
      exact ⟨n, .agg as, by simp only [V]; exact ⟨cs, rfl, h1⟩, as, rfl, h2⟩
    | _ => cases hr.2
section
variable {P : Program} {n : Nat} {t : TypeId} {as : List AV}
theorem TyC.int_ {k : IntKind} (hu : P.underlying t = some (.int k)) (h : TyC P n t as) : ∃ x, as = [.int (maxN k) x] ∧ (Lit.int k x).wf = true := by
  cases n with
  | zero => exact h.elim
  | succ n => have := h.2; rw [hu] at this; exact this
theorem TyC.bool_ (hu : P.underlying t = some .bool) (h : TyC P n t as) : ∃ b, as = [.bool b] := by
  cases n with
  | zero => exact h.elim
  | succ n => have := h.2; rw [hu] at this; exact this
theorem TyC.string_ (hu : P.underlying t = some .string) (h : TyC P n t as) : ∃ l, as = [.str l] ∧ (∀ b ∈ l, b < 256) ∧ l.length ≤ maxLen := by
  cases n with
  | zero => exact h.elim
  | succ n => have := h.2; rw [hu] at this; exact this
theorem TyC.struct_ {fs : Array Field} (hu : P.underlying t = some (.struct fs)) (h : TyC P n t as) : ∃ m, TyL (TyC P m) (fs.toList.map (·.type)) as := by
  cases n with
  | zero => exact h.elim
  | succ n => have := h.2; rw [hu] at this; exact ⟨n, this⟩
theorem TyC.array_ {m : Nat} {e : TypeId} (hu : P.underlying t = some (.array m e)) (h : TyC P n t as) : ∃ k, TyL (TyC P k) (List.replicate m e) as := by
  cases n with
  | zero => exact h.elim
  | succ n => have := h.2; rw [hu] at this; exact ⟨n, this⟩
theorem TyC.slice_ {e : TypeId} (hu : P.underlying t = some (.slice e)) (h : TyC P n t as) : as = [.nils] ∨ as = [.sle] ∨ ∃ m cs len, as = [.slp cs len] ∧ 0 < len ∧ len ≤ maxLen ∧ TyL (TyC P m) (List.replicate len e) cs := by
  cases n with
  | zero => exact h.elim
  | succ n =>
    have := h.2
    rw [hu] at this
    rcases this with h | h | ⟨cs, len, h1, h2, h3, h4⟩
    · exact .inl h
    · exact .inr (.inl h)
    · exact .inr (.inr ⟨n, cs, len, h1, h2, h3, h4⟩)
theorem TyC.one (hu : P.cellsOf t = 1) (h : TyC P n t as) : ∃ c, as = [c] := by
  have := h.len
  rw [hu] at this
  match as, this with
  | [c], _ => exact ⟨c, rfl⟩
theorem ltL_app (k : Nat) : ∀ (a b : List AV), ltL k (a ++ b) = and (ltL k a) (ltL k b)
  | [], b => by simp [ltL_nil]
  | x :: a, b => by rw [List.cons_append, ltL_cons, ltL_cons, ltL_app k a b, Bool.and_assoc]
theorem TyL.lt {T : TypeId → List AV → Prop} (hT : ∀ t as, T t as → ltL 0 as = true) : ∀ {ts : List TypeId} {as : List AV}, TyL T ts as → ltL 0 as = true
  | [], as, h => by rw [show as = [] from h]; rfl
  | t :: ts, as, h => by
    obtain ⟨a, r, rfl, h1, h2⟩ := h
    rw [ltL_app, hT t a h1, TyL.lt hT h2]; rfl
/-- Data that came in bears no names. -/
theorem TyC.lt : ∀ {n : Nat} {t : TypeId} {as : List AV}, TyC P n t as → ltL 0 as = true
  | 0, _, _, h => h.elim
  | n + 1, t, as, h => by
    have h := h.2
    split at h
    · obtain ⟨b, rfl⟩ := h; rfl
    · obtain ⟨b, rfl, _⟩ := h; rfl
    · obtain ⟨b, rfl, _⟩ := h; rfl
    · exact TyL.lt (fun _ _ h => TyC.lt h) h
    · exact TyL.lt (fun _ _ h => TyC.lt h) h
    · rcases h with rfl | rfl | ⟨cs, len, rfl, _⟩ <;> rfl
    · exact h.elim
theorem TyV.agg {fs : Array Field} {a : AV} (hu : P.underlying t = some (.struct fs)) (h : TyV P n t a) : ∃ as, a = .agg as ∧ TyC P n t as := by
  unfold TyV at h; rw [hu] at h; exact h
theorem TyV.int_ {k : IntKind} {a : AV} (hu : P.underlying t = some (.int k)) (h : TyV P n t a) : ∃ x, a = .int (maxN k) x ∧ (Lit.int k x).wf = true := by
  unfold TyV at h; rw [hu] at h
  obtain ⟨x, h1, h2⟩ := TyC.int_ hu h
  cases h1
  exact ⟨x, rfl, h2⟩
theorem TyV.string_ {a : AV} (hu : P.underlying t = some .string) (h : TyV P n t a) : ∃ l, a = .str l ∧ (∀ b ∈ l, b < 256) ∧ l.length ≤ maxLen := by
  unfold TyV at h; rw [hu] at h
  obtain ⟨x, h1, h2⟩ := TyC.string_ hu h
  cases h1
  exact ⟨x, rfl, h2⟩
theorem TyV.slice_ {e : TypeId} {a : AV} (hu : P.underlying t = some (.slice e)) (h : TyV P n t a) : a = .nils ∨ a = .sle ∨ ∃ m cs len, a = .slp cs len ∧ 0 < len ∧ len ≤ maxLen ∧ TyL (TyC P m) (List.replicate len e) cs := by
  unfold TyV at h; rw [hu] at h
  rcases TyC.slice_ hu h with h | h | ⟨m, cs, len, h1, h2⟩
  · cases h; exact .inl rfl
  · cases h; exact .inr (.inl rfl)
  · cases h1; exact .inr (.inr ⟨m, cs, len, rfl, h2⟩)
end
/-- A run that answers true. -/
theorem calls_of_run {P : Program} {C : Cx} {F : Nat} {as : List AV} {h' : AH} (R : RunAt P C F as [] (.bool true) h') {W : World} {args : Array Value} (I : Inv C (· < W.heap.size) W ρ0 []) (hv : VL (· < W.heap.size) W as ρ0 args.toList) :
    Calls P F args W fun e w' => e = .returned (.bool true) ∧ Below W.heap.size W w' := by
  have := R.2 _ W ρ0 args.toList I hv
  rw [Array.toArray_toList] at this
  refine this.mono fun e w' ⟨u, ok', ρ', he, E, _, hV⟩ => ?_
  simp only [V] at hV
  subst hV
  exact ⟨he, E.os, E.tape, E.output, E.size, fun k hk => E.keep k hk fun n hn => absurd (by simp [hget_eq]) hn⟩
/-- A table of numbers that is laid. -/
theorem tab_cells {P : Program} {W : World} {g t : Nat} {cs : Array Value} {fuel n e : Nat} {k : IntKind} {zs : List Int} {p : List MemPlace} {nm : String} (hg : P.globalNamed nm = some g) (hv : W.var? P nm = some cs)
    (hu : P.underlying t = some (.array n e)) (he : P.underlying e = some (.int k)) (c1 : P.cellsOf e = 1) (hz : zs.length = n) {d : DataW Unit} (ed : d = .agg (zs.map fun n => .lit (.int k n)))
    (hd : DataW.trod (fun _ => ()) P W 0 (fun _ => true) false fuel t cs.toList = some (d, p)) : ∀ r (h : r < zs.length), W.cell? ⟨g, r, none⟩ = some (.int k zs[r]) := by
  intro r hr
  subst ed
  obtain ⟨xs, m, _, ex, _, hl, hel⟩ := DataW.trod_array hu hd
  have hE := hel r (by omega)
  rw [c1, Nat.mul_one, List.getElem?_eq_getElem (by omega)] at hE
  obtain ⟨z, e1, e2, _⟩ := DataW.trod_int he hE
  have e3 : (xs.map (·.1)) = zs.map fun n => .lit (.int k n) := (DataW.agg.inj (Prod.mk.inj ex).1).symm
  have e4 : (xs.map (·.1))[r]? = (zs.map fun n => (DataW.lit (.int k n) : DataW Unit))[r]? := by rw [e3]
  rw [List.getElem?_map, List.getElem?_map, List.getElem?_eq_getElem (by omega : r < xs.length), List.getElem?_eq_getElem hr, e2] at e4
  have hz : z = zs[r] := by simpa using e4
  rw [World.var?_cell hg hv r, ← hz]
  have : cs.toList[r]? = some (.int k z) := by
    have h0 : ((cs.toList.drop r).take 1)[0]? = some (.int k z) := by rw [e1]; rfl
    simpa using h0
  simpa using this
theorem VAt_tab {ok : Nat → Prop} {w : World} {ρ : Rho} {g : Nat} {k : IntKind} : ∀ {zs : List Int} {p : Nat}, (∀ r (h : r < zs.length), w.cell? ⟨g, p + r, none⟩ = some (.int k zs[r])) → VAt ok w (zs.map fun n => .int (maxN k) n) ρ g p
  | [], _, _ => by simp only [List.map_nil, VAt]
  | z :: zs, p, h => by
    simp only [List.map_cons, VAt]
    refine ⟨⟨.int k z, h 0 (by simp), by simp only [V]; exact ⟨k, rfl, rfl⟩⟩, VAt_tab fun r hr => ?_⟩
    have := h (r + 1) (by simpa using hr)
    rw [show p + 1 + r = p + (r + 1) by omega]
    simpa using this
end Go.Proofs.YtdkioifmieamoaaGreatDoor
namespace Go.Proofs.YtdkioifmieamoaaGreatDoor
set_option linter.unusedSimpArgs false
set_option linter.unusedVariables false
set_option linter.unnecessarySimpa false
section
variable {C : Cx} {run : Run} {lp : Lp} {s : St} {h : AH} {κ : Ka}
theorem bqT {α : Type} (a b : α) : bq true a b = a := (rfl)
theorem bqF {α : Type} (a b : α) : bq false a b = b := (rfl)
theorem obindN {α β : Type} (f : α → Option β) : obind none f = none := (rfl)
theorem obindS {α β : Type} (a : α) (f : α → Option β) : obind (some a) f = f a := (rfl)
theorem wrapA_nat {m a : Nat} (h : a ≤ m) : wrapA m (a : Int) = (a : Int) := by
  show bq (Nat.ble a m) (Int.ofNat a) _ = _
  rw [nble, bq_dec_pos h]; rfl
theorem wrapA_le {m : Nat} {a : Int} (h0 : 0 ≤ a) (h : a ≤ m) : wrapA m a = a := by
  obtain ⟨n, rfl⟩ : ∃ n : Nat, a = n := ⟨a.toNat, by omega⟩
  exact wrapA_nat (by omega)
theorem toU_nat {t a : Nat} (h : a ≤ t) : toU t (a : Int) = a := by
  show bq (Nat.ble a t) a (Nat.land a t) = a
  rw [nble, bq_dec_pos h]
theorem toU_int {t : Nat} {a : Int} (h0 : 0 ≤ a) (h : a ≤ t) : toU t a = a.toNat := by
  obtain ⟨n, rfl⟩ : ∃ n : Nat, a = n := ⟨a.toNat, by omega⟩
  exact toU_nat (by omega)
theorem bitA_eq (m t : Nat) (g : Nat → Nat → Nat) (a b : Int) : bitA m t g (.int m a) (.int m b) h κ = κ (.int m (wrapA m ((g (toU t a) (toU t b) : Nat) : Int))) h := by
  show bq (Nat.beq m m) (bq (Nat.beq m m) _ none) none = _
  rw [Nat.beq_refl]; rfl
theorem shrA_eq {m w k : Nat} (a : Nat) {s : Int} (h0 : 0 ≤ s) (hs : s ≤ w) : shrA m w (.int m (a : Int)) (.int k s) h κ = κ (.int m ((a / 2 ^ s.toNat : Nat) : Int)) h := by
  obtain ⟨n, rfl⟩ : ∃ n : Nat, s = n := ⟨s.toNat, by omega⟩
  show bq (Nat.beq m m) (κ (.int m (.ofNat (a / 2 ^ (minN n w)))) h) none = _
  rw [Nat.beq_refl, bq_true]
  unfold minN
  rw [nble, bq_dec_pos (by omega)]; rfl
theorem shlA_eq {m w k : Nat} (a : Int) {s : Int} (h0 : 0 ≤ s) (hs : s ≤ w) : shlA m w (.int m a) (.int k s) h κ = κ (.int m (wrapA m (a * ((2 ^ s.toNat : Nat) : Int)))) h := by
  obtain ⟨n, rfl⟩ : ∃ n : Nat, s = n := ⟨s.toNat, by omega⟩
  show bq (Nat.beq m m) (κ (.int m (wrapA m (imul a (.ofNat (2 ^ (minN n w)))))) h) none = _
  rw [Nat.beq_refl, bq_true, imulE]
  unfold minN
  rw [nble, bq_dec_pos (by omega)]; rfl
theorem min_eq (k : Nat) (a b : Int) : minmax false (.int k a) (.int k b) h κ = κ (.int k (min a b)) h := by
  show bq (Nat.beq k k) (κ (.int k (bq (iblt b a) b a)) h) none = _
  rw [Nat.beq_refl, bq_true, ibltE]
  by_cases e : b < a
  · rw [bq_dec_pos e]; congr 2; omega
  · rw [bq_dec_neg e]; congr 2; omega
theorem max_eq (k : Nat) (a b : Int) : minmax true (.int k a) (.int k b) h κ = κ (.int k (max a b)) h := by
  show bq (Nat.beq k k) (κ (.int k (bq (iblt a b) b a)) h) none = _
  rw [Nat.beq_refl, bq_true, ibltE]
  by_cases e : a < b
  · rw [bq_dec_pos e]; congr 2; omega
  · rw [bq_dec_neg e]; congr 2; omega
theorem guardC_b (b w : Bool) (f : Ka → Option Rs) : guardC (.bool b) w f h κ = bq (beqB b w) (f κ) (κ (.tup []) h) := (rfl)
theorem guardC_u (w : Bool) (f : Ka → Option Rs) : guardC (.tup []) w f h κ = κ (.tup []) h := by cases w <;> rfl
theorem beqB_tt : beqB true true = true := (rfl)
theorem beqB_tf : beqB true false = false := (rfl)
theorem beqB_ft : beqB false true = false := (rfl)
theorem beqB_ff : beqB false false = true := (rfl)
theorem bldS_int2 (k : Nat) (a b : Int) : bldS 1 2 [.int k 0] [(0, .int k a), (1, .int k b)] h κ = κ (.slo h.length 0 2 2 1 true) (h ++ [some (.cells [.int k a, .int k b] 0)]) := by
  have e : bldS 1 2 [.int k 0] [(0, .int k a), (1, .int k b)] h κ = κ (.slo (flen h) 0 2 2 1 true) (fapp h [some (.cells [.int k a, .int k b] 0)]) := by kernel_rfl
  rw [e, flen_eq, fapp_eq]
/- what is the same -/
theorem eqS_refl : ∀ l : List Nat, eqS l l = true
  | [] => rfl
  | a :: r => by show bq (Nat.beq a a) (eqS r r) false = true; rw [Nat.beq_refl, bq_true, eqS_refl r]
theorem same_agg (l : List AV) (a : AV) : AV.same (.agg (a :: l)) (.agg (a :: l)) = and (AV.same a a) (AV.same (.agg l) (.agg l)) := (rfl)
theorem same_refl (v : AV) : AV.same v v = true := by
  refine AV.rec (motive_1 := fun v => AV.same v v = true) (motive_2 := fun l => AV.same (.agg l) (.agg l) = true) ?_ ?_ ?_ ?_ ?_ ?_ ?_ ?_ ?_ ?_ ?_ ?_ ?_ ?_ ?_ ?_ ?_ ?_ ?_ ?_ ?_ v
  · rfl
  · intro b; cases b <;> rfl
  · intro k n; show and (Nat.beq k k) (ibeq n n) = true; rw [Nat.beq_refl, ibeqE]; simp
  · intro l; exact eqS_refl l
  · rfl
  · intro b o; show and (Nat.beq b b) (Nat.beq o o) = true; rw [Nat.beq_refl, Nat.beq_refl]; rfl
  · intro c o ih; show and (Nat.beq o o) (AV.same (.agg c) (.agg c)) = true; rw [Nat.beq_refl, ih]; rfl
  · rfl
  · intro b o l c z e; show and (and (and (Nat.beq b b) (Nat.beq o o)) (and (Nat.beq l l) (Nat.beq c c))) (and (Nat.beq z z) (beqB e e)) = true; simp only [Nat.beq_refl]; cases e <;> rfl
  · intro c n ih; show and (Nat.beq n n) (AV.same (.agg c) (.agg c)) = true; rw [Nat.beq_refl, ih]; rfl
  · rfl
  · rfl
  · intro b; exact Nat.beq_refl b
  · intro a c ia ic; show and (AV.same (.agg a) (.agg a)) (AV.same (.agg c) (.agg c)) = true; rw [ia, ic]; rfl
  · rfl
  · intro f a c ia ic; show and (Nat.beq f f) (and (AV.same (.agg a) (.agg a)) (AV.same (.agg c) (.agg c))) = true; rw [Nat.beq_refl, ia, ic]; rfl
  · rfl
  · intro c ih; exact ih
  · intro c ih; exact ih
  · rfl
  · intro a r ia ir; show and (AV.same a a) (AV.same (.agg r) (.agg r)) = true; rw [ia, ir]; rfl
theorem sameLL_refl : ∀ l : List (List AV), sameLL l l = true
  | [] => rfl
  | x :: a => by show and (AV.same (.agg x) (.agg x)) (sameLL a a) = true; rw [same_refl, sameLL_refl a]; rfl
theorem sameBlk_refl (b : Blk) : sameBlk b b = true := by
  cases b with
  | cells x y => show and (Nat.beq y y) (AV.same (.agg x) (.agg x)) = true; rw [Nat.beq_refl, same_refl]; rfl
  | map x y => show and (AV.same (.agg x) (.agg x)) (AV.same (.agg y) (.agg y)) = true; rw [same_refl, same_refl]; rfl
  | rows z x y => show and (and (Nat.beq z z) (Nat.beq y y)) (sameLL x x) = true; rw [Nat.beq_refl, Nat.beq_refl, sameLL_refl]; rfl
theorem sameH_refl : ∀ h : AH, sameH h h = true
  | [] => rfl
  | none :: a => sameH_refl a
  | some x :: a => by show and (sameBlk x x) (sameH a a) = true; rw [sameBlk_refl, sameH_refl a]; rfl
/- regions that draw their order -/
theorem gfit_self (h : AH) : gfit (flen h) h = h := by
  unfold gfit
  rw [flen_eq, ftake_eq, List.take_length, fapp_eq, frep_eq]
  simp
end
noncomputable section
/-- Goes on, where memory stayed as it is. -/
def ckX (h : AH) (k : AV → Option Rs) (x : AV × AH) : Option Rs := bq (and (sameH x.2 h) (AV.lt (flen h) x.1)) (k x.1) none
/-- A region that draws, gone through in the text's order. -/
def seqD (C : Cx) (run : Run) (fl : List (Nat × Nat)) (t : Tms) (h : AH) (l : List DOp) : List AV → Option Rs :=
  List.rec (motive := fun _ => List AV → Option Rs) (fun σ => some (.st (flushA σ t fl) h)) (fun o _ ih σ => obind (vhO (o.op.f C run σ t h kVH)) (ckX h fun v => ih (v :: σ))) l
def plainD (l : List DOp) : Bool := allB (fun o => and (not o.nw) (match o.hide with | [] => true | _ => false)) l
def pairsD (n : Nat) (pl : List (Nat × Nat)) : Bool := allB (fun p => and (Nat.blt p.1 n) (Nat.blt p.2 n)) pl
end
section
variable {C : Cx} {run : Run} {lp : Lp} {s : St} {h : AH} {κ : Ka}
theorem allB_iff {α : Type} {f : α → Bool} : ∀ {l : List α}, allB f l = true ↔ ∀ a ∈ l, f a = true
  | [] => by simp [allB]
  | a :: r => by
    show and (f a) (allB f r) = true ↔ _
    rw [Bool.and_eq_true, allB_iff]; simp
/-- A step that left memory as it was. -/
def StillT (C : Cx) (run : Run) (t : Tms) (h : AH) (o : DOp) (r : Tr) : Prop := r.h = h ∧ r.h' = h ∧ AV.lt (flen h) r.v = true ∧ vhO (o.op.f C run r.σ t h kVH) = some (r.v, h)
theorem seqD_trace {fl : List (Nat × Nat)} {t : Tms} {r : Rs} : ∀ (l : List DOp) (done : List DOp) (tr : List Tr) (σ : List AV), plainD l = true → seqD C run fl t h l σ = some r → tr.length = done.length → (∀ (i : Nat) (o : DOp) (q : Tr), done[i]? = some o → tr[i]? = some q → StillT C run t h o q) →
    ∃ (tr' : List Tr) (σ' : List AV), traceA C run t l tr σ h = some (tr', σ', h) ∧ r = .st (flushA σ' t fl) h ∧ tr'.length = (done ++ l).length ∧ ∀ (i : Nat) (o : DOp) (q : Tr), (done ++ l)[i]? = some o → tr'[i]? = some q → StillT C run t h o q
  | [], done, tr, σ, _, e, hl, ha => by
    have e : some (Rs.st (flushA σ t fl) h) = some r := e
    refine ⟨tr, σ, rfl, by cases e; rfl, by simpa using hl, by simpa using ha⟩
  | o :: l, done, tr, σ, hp, e, hl, ha => by
    have hp : and (and (not o.nw) (match o.hide with | [] => true | _ => false)) (plainD l) = true := hp
    rw [Bool.and_eq_true, Bool.and_eq_true] at hp
    obtain ⟨⟨hn, hh⟩, hp⟩ := hp
    have hn : o.nw = false := by simpa using hn
    have hh : o.hide = [] := by
      split at hh
      · assumption
      · cases hh
    obtain ⟨⟨v, h'⟩, e1, e2⟩ := obind_eq_some (show obind (vhO (o.op.f C run σ t h kVH)) (ckX h fun v => seqD C run fl t h l (v :: σ)) = some r from e)
    obtain ⟨e3, e4⟩ := bq_some (show bq (and (sameH h' h) (AV.lt (flen h) v)) (seqD C run fl t h l (v :: σ)) none = some r from e2)
    rw [Bool.and_eq_true] at e3
    obtain ⟨g1, g2⟩ := e3
    have g0 : h' = h := sameH_eq g1
    rw [g0] at e1
    have hs : stepD C run t o tr σ h = some ⟨σ, h, v, h⟩ := by
      unfold stepD
      rw [hn, bq_false, hh]
      show obind (vhO (o.op.f C run σ t h kVH)) _ = _
      rw [e1, obind_some]
      cases o.ef with
      | false => rfl
      | true =>
        rw [bq_true, nble, bq_dec_pos (Nat.le_refl _)]
        rfl
    obtain ⟨tr', σ', k1, k2, k3, k4⟩ := seqD_trace l (done ++ [o]) (tr ++ [⟨σ, h, v, h⟩]) (v :: σ) hp e4 (by simp [hl]) (fun i p q h1 h2 => by
      rcases Nat.lt_trichotomy i done.length with hi | hi | hi
      · rw [List.getElem?_append_left hi] at h1
        rw [List.getElem?_append_left (by omega)] at h2
        exact ha i p q h1 h2
      · subst hi
        rw [List.getElem?_append_right (by omega)] at h1
        rw [List.getElem?_append_right (by omega), ← hl] at h2
        simp at h1 h2
        subst h1; subst h2
        exact ⟨rfl, rfl, g2, e1⟩
      · rw [List.getElem?_eq_none (by simp; omega)] at h1; cases h1)
    refine ⟨tr', σ', ?_, k2, by simpa using k3, by simpa using k4⟩
    show obind (stepD C run t o tr σ h) (fun r => traceA C run t l (fapp tr [r]) (r.v :: σ) r.h') = _
    rw [hs, obind_some, fapp_eq]
    exact k1
theorem draw_still {fl pl : List (Nat × Nat)} {t : Tms} {ops : List DOp} {r : Rs} (hp : plainD ops = true) (hq : pairsD (flen ops) pl = true) (e : seqD C run fl t h ops [] = some r) : drawA C run fl t ops pl h = some r := by
  obtain ⟨tr, σ, k1, rfl, k3, k4⟩ := seqD_trace ops [] [] [] hp e rfl (fun i o q h1 => by simp at h1)
  unfold drawA
  rw [k1, obind_some]
  show bq (allB (pairA C run t ops tr) pl) _ none = _
  rw [show allB (pairA C run t ops tr) pl = true from allB_iff.2 fun p hpl => ?_, bq_true]
  have := allB_iff.1 hq p hpl
  rw [Bool.and_eq_true, nblt, nblt, flen_eq] at this
  obtain ⟨l1, l2⟩ := this
  have l1 := of_decide_eq_true l1
  have l2 := of_decide_eq_true l2
  simp only [List.nil_append] at k3 k4
  have a1 : ops[p.1]? = some ops[p.1] := List.getElem?_eq_getElem l1
  have a2 : tr[p.1]? = some (tr[p.1]'(by omega)) := List.getElem?_eq_getElem (by omega)
  have a3 : tr[p.2]? = some (tr[p.2]'(by omega)) := List.getElem?_eq_getElem (by omega)
  have b1 : ops[p.2]? = some ops[p.2] := List.getElem?_eq_getElem l2
  obtain ⟨c1, c2, c3, c4⟩ := k4 _ _ _ a1 a2
  obtain ⟨d1, d2, d3, d4⟩ := k4 _ _ _ b1 a3
  have hh : (ops[p.1]).hide = [] := by
    have := allB_iff.1 hp ops[p.1] (List.getElem_mem l1)
    rw [Bool.and_eq_true] at this
    have hh := this.2
    split at hh
    · assumption
    · cases hh
  unfold pairA
  rw [fget_eq, fget_eq, fget_eq, a1, a2, a3]
  show and (AV.lt (flen (tr[p.1]'(by omega)).h) (tr[p.1]'(by omega)).v) (isV (tr[p.1]'(by omega)).v (vhO ((ops[p.1]).op.f C run (tr[p.1]'(by omega)).σ t (gfit (flen (tr[p.1]'(by omega)).h) (blot (hidN tr (ops[p.1]).hide) (bq (Nat.blt p.1 p.2) (tr[p.2]'(by omega)).h' (tr[p.2]'(by omega)).h))) kVH))) = true
  rw [c1, d1, d2, hh]
  show and _ (isV _ (vhO ((ops[p.1]).op.f C run _ t (gfit (flen h) (bq (Nat.blt p.1 p.2) h h)) kVH))) = true
  have : bq (Nat.blt p.1 p.2) h h = h := by cases Nat.blt p.1 p.2 <;> rfl
  rw [this, gfit_self, c4, c3]
  show AV.same _ _ = true
  exact same_refl _
theorem kdraw_still {fl pl : List (Nat × Nat)} {t : Tms} {ops : List DOp} {r : Ex × St} (hp : plainD ops = true) (hq : pairsD (flen ops) pl = true) (e : kNrm (seqD C run fl t h ops []) = some r) : kDraw C run ops pl fl ⟨t, h⟩ = some r := by
  cases e1 : seqD C run fl t h ops [] with
  | none => rw [e1] at e; cases e
  | some q =>
    show kNrm (drawA C run fl t ops pl h) = some r
    rw [draw_still hp hq e1, ← e1, e]
theorem vhO_kVH (v : AV) (h : AH) : vhO (kVH v h) = some (v, h) := (rfl)
theorem ckX_same (k : AV → Option Rs) (v : AV) : ckX h k (v, h) = bq (AV.lt (flen h) v) (k v) none := by
  unfold ckX
  rw [sameH_refl, Bool.true_and]
/- calls that stay in the caller's memory -/
theorem callA_own {f : Nat} {args : List AV} {r : AV} {h1 : AH} (hx : C.ext f = none) (hp : ltL 0 args = false) (ht : C.tr f = false) (hr : run f args h = some (r, h1)) : callA C run f args h = some (r, h1) := by
  unfold callA
  rw [hx, hp, Bool.and_false, hr]
  show trimA C f (flen h) (r, h1) = _
  unfold trimA
  rw [ht]; rfl
/-- A function whose calls all run in the caller's memory. -/
theorem callA_in {f : Nat} {args : List AV} {r : AV} {h1 : AH} (hx : C.ext f = none) (ho : C.own f = true) (ht : C.tr f = false) (hr : run f args h = some (r, h1)) : callA C run f args h = some (r, h1) := by
  unfold callA
  rw [hx, ho, hr]
  show trimA C f (flen h) (r, h1) = _
  unfold trimA
  rw [ht]; rfl
end
/- ranges over maps -/
noncomputable section
def rmOnP (C : Cx) (run : Run) (kr : Kr) (q c : Nat) (ent : List OK) (fl1 : List (Nat × Nat)) (id it : Nat) (v : AV) (t : Tms) (h : AH) : Option Rs :=
  match v with
  | .mpp ks vs => rmGos C run kr q c ent fl1 id it (flen h) ks vs t (fapp h [none])
  | .mpo b => obind (hget h b) fun y => blkM y fun ks vs => bq (and (ltL 0 ks) (ltL 0 vs))
      (rmGos C run kr q c ent fl1 id it (flen h) ks vs (tmap (fun _ v => v.frz b ks vs) t) (hfrz b ks vs (fapp h [none]))) none
  | _ => none
end
section
variable {C : Cx} {run : Run} {kr : Kr} {q c id it : Nat} {ent : List OK} {fl1 : List (Nat × Nat)} {t : Tms} {h : AH}
theorem rmOnP_mpp (ks vs : List AV) : rmOnP C run kr q c ent fl1 id it (.mpp ks vs) t h = rmGos C run kr q c ent fl1 id it (flen h) ks vs t (fapp h [none]) := (rfl)
/-- The tree of a loop whose rounds commute. -/
def treeRT {A : Type} (S : A → St) (step : A → AV × AV → A) : List (AV × AV) → A → RT
  | [], a => .lf (S a)
  | e :: r, a => .nd (treeRT S step r a) (treeRT S step r (step a e))
theorem sameT_refl : ∀ t : Tm, sameT t t = true
  | .nl => rfl
  | .lf k v => by show and (Nat.beq k k) (AV.same v v) = true; rw [Nat.beq_refl, same_refl]; rfl
  | .nd m a b => by show and (Nat.beq m m) (and (sameT a a) (sameT b b)) = true; rw [Nat.beq_refl, sameT_refl a, sameT_refl b]; rfl
theorem isS_self (s : St) : isS s (some s) = true := by
  show and (sameT s.t s.t) (sameH s.h s.h) = true
  rw [sameT_refl, sameH_refl]; rfl
theorem agree_tree {A : Type} {S : A → St} {step : A → AV × AV → A} (comm : ∀ a e e', step (step a e) e' = step (step a e') e) {f : St → Option St} {e : AV × AV} (hf : ∀ a, f (S a) = some (S (step a e))) : ∀ (r : List (AV × AV)) (a : A), agreeRT f (treeRT S step r a) (treeRT S step r (step a e)) = true
  | [], a => by
    show isS (S (step a e)) (f (S a)) = true
    rw [hf]; exact isS_self _
  | x :: r, a => by
    show and (agreeRT f (treeRT S step r a) (treeRT S step r (step a e))) (agreeRT f (treeRT S step r (step a x)) (treeRT S step r (step (step a e) x))) = true
    rw [agree_tree comm hf r a, comm a e x, agree_tree comm hf r (step a x)]; rfl
theorem mk_tree {A : Type} {S : A → St} {step : A → AV × AV → A} {body : AV → AV → St → Option St} : ∀ (es : List (AV × AV)), (∀ e ∈ es, ∀ a, body e.1 e.2 (S a) = some (S (step a e))) → ∀ a, mkRT body (es.map (·.1)) (es.map (·.2)) (S a) = some (treeRT S step es a)
  | [], _, a => rfl
  | e :: r, hb, a => by
    show obind (mkRT body (r.map (·.1)) (r.map (·.2)) (S a)) (fun x => obind (body e.1 e.2 (S a)) fun s' => obind (mkRT body (r.map (·.1)) (r.map (·.2)) s') fun y => some (RT.nd x y)) = _
    rw [mk_tree r (fun e he => hb e (List.mem_cons_of_mem _ he)) a, obind_some, hb e (List.mem_cons_self ..) a, obind_some, mk_tree r (fun e he => hb e (List.mem_cons_of_mem _ he)), obind_some]
    rfl
theorem ok_tree {A : Type} {S : A → St} {step : A → AV × AV → A} (comm : ∀ a e e', step (step a e) e' = step (step a e') e) {body : AV → AV → St → Option St} : ∀ (es : List (AV × AV)), (∀ e ∈ es, ∀ a, body e.1 e.2 (S a) = some (S (step a e))) → ∀ a, okRT body (es.map (·.1)) (es.map (·.2)) (treeRT S step es a) = true
  | [], _, a => rfl
  | e :: r, hb, a => by
    have hb' := fun x hx => hb x (List.mem_cons_of_mem _ hx)
    show and (agreeRT (body e.1 e.2) (treeRT S step r a) (treeRT S step r (step a e))) (and (okRT body (r.map (·.1)) (r.map (·.2)) (treeRT S step r a)) (okRT body (r.map (·.1)) (r.map (·.2)) (treeRT S step r (step a e)))) = true
    rw [agree_tree comm (hb e (List.mem_cons_self ..)), ok_tree comm r hb', ok_tree comm r hb']; rfl
theorem last_tree {A : Type} {S : A → St} {step : A → AV × AV → A} : ∀ (es : List (AV × AV)) (a : A), lastRT (treeRT S step es a) = S (es.foldl step a)
  | [], a => rfl
  | e :: r, a => by
    show lastRT (treeRT S step r (step a e)) = _
    rw [last_tree r]; rfl
/-- A range over a map whose rounds commute: what it leaves. -/
theorem rmGos_comm {A : Type} {S : A → St} {step : A → AV × AV → A} (comm : ∀ a e e', step (step a e) e' = step (step a e') e) {N : Nat} {es : List (AV × AV)} {a0 : A}
    (hN : AV.same (tget (S a0).t it) (.pto N 0) = true) (hb : ∀ e ∈ es, ∀ a, bodyS true C run kr ent fl1 id it (S a0).t (flen (S a0).h) e.1 e.2 (S a) = some (S (step a e))) :
    rmGos C run kr q c ent fl1 id it N (es.map (·.1)) (es.map (·.2)) (S a0).t (S a0).h = some (.st (S (es.foldl step a0)).t (S (es.foldl step a0)).h) := by
  have : rmGo true C run kr q c ent fl1 id it N (es.map (·.1)) (es.map (·.2)) (S a0).t (S a0).h = some (.st (S (es.foldl step a0)).t (S (es.foldl step a0)).h) := by
    show bq (AV.same (tget (S a0).t it) (.pto N 0)) (obind (mkRT (bodyS true C run kr ent fl1 id it (S a0).t (flen (S a0).h)) (es.map (·.1)) (es.map (·.2)) (S a0)) _) none = _
    rw [hN, bq_true, mk_tree es hb a0, obind_some, ok_tree comm es hb a0, bq_true, last_tree]
  unfold rmGos
  rw [this]
end
/- a call in a heap of its own whose result is laid still -/
theorem callA_fz {C : Cx} {run : Run} {h : AH} {f : Nat} {args : List AV} {r v : AV} {h1 : AH} (hx : C.ext f = none) (hp : ltL 0 args = true) (hm : C.memo f args = none) (hr : run f args [] = some (r, h1)) (hl : r.lt 0 = false) (hf : C.fz f = true) (hz : fzV h1 40 r = some v) (ho : C.own f = false := by kernel_rfl) : callA C run f args h = some (v, h) := by
  unfold callA
  rw [hx, ho, hp, hm, hr]
  show bq true (obind (some (r, h1)) (importA C f h)) _ = _
  rw [bq_true, obind_some]
  unfold importA
  rw [hl, bq_false, hf, bq_true, hz]
theorem bldA_of {place : Nat → Option (Nat × Nat)} {z cs : List AV} {ps : List (Nat × AV)} {h : AH} {κ : Ka} (e : fillA place z ps = some cs) : bldA place z ps h κ = κ (.agg cs) h := by
  unfold bldA
  rw [e]; rfl
/-- A value of a type, stored whole where a block of it was made. -/
theorem storeG_new {n y : Nat} {Z E : List AV} {h : AH} {κ : Ka} (hZ : Z.length = n) (hE : E.length = n) (hp : plains E = true) : storeG n (.pto h.length 0) (.agg E) (h ++ [some (.cells Z y)]) κ = κ (.tup []) (h ++ [some (.cells E y)]) := by
  rw [storeG_o, hE, hp, decide_eq_true rfl]
  show bq true _ none = _
  rw [bq_true, hget_top, obind_some, blkC_cells, Nat.zero_add, decide_eq_true (Nat.le_of_eq hZ.symm), bq_true, set_top, List.drop_eq_nil_of_le (by omega)]
  simp
theorem plains_app : ∀ (a b : List AV), plains (a ++ b) = and (plains a) (plains b)
  | [], b => rfl
  | x :: a, b => by
    show and x.plain (plains (a ++ b)) = and (and x.plain (plains a)) (plains b)
    rw [plains_app a b, Bool.and_assoc]
theorem TyL.plains {T : TypeId → List AV → Prop} (hT : ∀ t as, T t as → plains as = true) : ∀ {ts : List TypeId} {as : List AV}, TyL T ts as → Go.Proofs.YtdkioifmieamoaaGreatDoor.plains as = true
  | [], as, h => by rw [show as = [] from h]; rfl
  | t :: ts, as, h => by
    obtain ⟨a, r, rfl, h1, h2⟩ := h
    rw [plains_app, hT t a h1, TyL.plains hT h2]; rfl
theorem TyC.plains {P : Program} : ∀ {n : Nat} {t : TypeId} {as : List AV}, TyC P n t as → Go.Proofs.YtdkioifmieamoaaGreatDoor.plains as = true
  | 0, _, _, h => h.elim
  | n + 1, t, as, h => by
    have h2 := h.2
    split at h2
    · obtain ⟨b, rfl⟩ := h2; rfl
    · obtain ⟨x, rfl, _⟩ := h2; rfl
    · obtain ⟨l, rfl, _⟩ := h2; rfl
    · exact TyL.plains (fun t as h => TyC.plains h) h2
    · exact TyL.plains (fun t as h => TyC.plains h) h2
    · rcases h2 with rfl | rfl | ⟨cs, len, rfl, _⟩ <;> rfl
    · exact h2.elim
theorem ltL_mono {k : Nat} : ∀ (l : List AV), ltL 0 l = true → ltL k l = true := by
  intro l
  refine AV.rec_1 (motive_1 := fun v => v.lt 0 = true → v.lt k = true) (motive_2 := fun l => ltL 0 l = true → ltL k l = true) ?_ ?_ ?_ ?_ ?_ ?_ ?_ ?_ ?_ ?_ ?_ ?_ ?_ ?_ ?_ ?_ ?_ ?_ ?_ ?_ ?_ l
  · exact fun h => h
  · exact fun _ h => h
  · exact fun _ _ h => h
  · exact fun _ h => h
  · exact fun h => h
  · intro b o h; rw [lt_pto] at h; simp at h
  · exact fun _ _ _ h => h
  · exact fun h => h
  · intro b o l c z e h; rw [lt_slo] at h; simp at h
  · exact fun _ _ _ h => h
  · exact fun h => h
  · exact fun h => h
  · intro b h
    have h : Nat.blt b 0 = true := h
    rw [nblt] at h; simp at h
  · exact fun _ _ _ _ h => h
  · exact fun h => h
  · intro f a c ia ic h
    have h : and (ltL 0 a) (ltL 0 c) = true := h
    show and (ltL k a) (ltL k c) = true
    rw [Bool.and_eq_true] at h ⊢
    exact ⟨ia h.1, ic h.2⟩
  · exact fun h => h
  · exact fun _ ih h => ih h
  · exact fun _ ih h => ih h
  · exact fun h => h
  · intro v r iv ir h
    rw [ltL_cons, Bool.and_eq_true] at h ⊢
    exact ⟨iv h.1, ir h.2⟩
theorem wrap_i64_add (a b : Int) : IntKind.i64.wrap (IntKind.i64.wrap a + b) = IntKind.i64.wrap (a + b) := by
  simp [IntKind.wrap, IntKind.min, IntKind.max, IntKind.signed, IntKind.bits]; omega
theorem bodyS_of {kp : Bool} {C : Cx} {run : Run} {kr : Kr} {ent : List OK} {fl1 : List (Nat × Nat)} {id it n0 : Nat} {t0 t1 : Tms} {h1 : AH} {k v : AV} {s s1 : St} (e1 : opsA C run fl1 s.t ent [.tup [k, v]] s.h = some (.st t1 h1)) (e2 : kr ⟨t1, h1⟩ = some (.nrm, s1)) :
    bodyS kp C run kr ent fl1 id it t0 n0 k v s = canonS kp it t0 n0 s1 := by
  unfold bodyS
  rw [e1, obind_some]
  show obind (kr ⟨t1, h1⟩) _ = _
  rw [e2, obind_some]; rfl
theorem canonS_of {kp : Bool} {it n0 : Nat} {t0 t' : Tms} {s : St} {h' : AH} (e1 : tmap (fun k v => bq (or (AV.same (tget t0 k) v) (and kp (not (AV.same .bot (tget t0 k))))) v .bot) s.t = t') (e2 : AV.same (tget t0 it) (tget s.t it) = true) (e3 : tall (AV.lt n0) t' = true) (e4 : ftake n0 s.h = h') (e5 : hlt n0 h' = true) :
    canonS kp it t0 n0 s = some ⟨t', h'⟩ := by
  unfold canonS
  rw [e1, e2, e4]
  show bq (and (and true (tall (AV.lt n0) t')) (hlt n0 h')) _ none = _
  rw [e3, e5]; rfl
theorem same_bot_bot : AV.same .bot .bot = true := (rfl)
theorem same_bot_int (k : Nat) (n : Int) : AV.same .bot (.int k n) = false := (rfl)
theorem same_bot_str (l : List Nat) : AV.same .bot (.str l) = false := (rfl)
theorem same_bot_bool (b : Bool) : AV.same .bot (.bool b) = false := (rfl)
theorem neS_nil (a : List Nat) : neS a [] = decide (a ≠ []) := by cases a <;> rfl
theorem eqS_nil (a : List Nat) : eqS a [] = decide (a = []) := by cases a <;> rfl
/- regions that draw, whose steps that change memory wait for all others -/
noncomputable section
/-- What reads; what changes memory. -/
def ckN (k : AV → Option Rs) (x : AV × AH) : Option Rs := k x.1
def ckE (h : AH) (k : AV → AH → Option Rs) (x : AV × AH) : Option Rs := bq (Nat.ble (flen h) (flen x.2)) (k x.1 x.2) none
def seqE (C : Cx) (run : Run) (fl : List (Nat × Nat)) (t : Tms) (l : List DOp) : List AV → AH → Option Rs :=
  List.rec (motive := fun _ => List AV → AH → Option Rs) (fun σ h => some (.st (flushA σ t fl) h)) (fun o _ ih σ h => obind (vhO (o.op.f C run σ t h kVH)) (bq o.ef (ckE h fun v h => ih (v :: σ) h) (ckN fun v => ih (v :: σ) h))) l
end
section
variable {C : Cx} {run : Run} {lp : Lp} {s : St} {h : AH} {κ : Ka}
theorem seqE_trace {fl : List (Nat × Nat)} {t : Tms} {r : Rs} : ∀ (l : List DOp) (tr : List Tr) (σ : List AV) (h : AH), plainD l = true → seqE C run fl t l σ h = some r → ∃ tr' σ' h', traceA C run t l tr σ h = some (tr', σ', h') ∧ r = .st (flushA σ' t fl) h'
  | [], tr, σ, h, _, e => by
    have e : some (Rs.st (flushA σ t fl) h) = some r := e
    exact ⟨tr, σ, h, rfl, by cases e; rfl⟩
  | o :: l, tr, σ, h, hp, e => by
    have hp : and (and (not o.nw) (match o.hide with | [] => true | _ => false)) (plainD l) = true := hp
    rw [Bool.and_eq_true, Bool.and_eq_true] at hp
    obtain ⟨⟨hn, hh⟩, hp⟩ := hp
    have hn : o.nw = false := by simpa using hn
    have hh : o.hide = [] := by
      split at hh
      · assumption
      · cases hh
    obtain ⟨⟨v, h'⟩, e1, e2⟩ := obind_eq_some (show obind (vhO (o.op.f C run σ t h kVH)) (bq o.ef (ckE h fun v h => seqE C run fl t l (v :: σ) h) (ckN fun v => seqE C run fl t l (v :: σ) h)) = some r from e)
    cases he : o.ef with
    | false =>
      rw [he, bq_false] at e2
      have e2 : seqE C run fl t l (v :: σ) h = some r := e2
      have hs : stepD C run t o tr σ h = some ⟨σ, h, v, h⟩ := by
        unfold stepD
        rw [hn, bq_false, hh]
        show obind (vhO (o.op.f C run σ t h kVH)) _ = _
        rw [e1, obind_some, he]; rfl
      obtain ⟨tr', σ', h2, k1, k2⟩ := seqE_trace l (tr ++ [⟨σ, h, v, h⟩]) (v :: σ) h hp e2
      refine ⟨tr', σ', h2, ?_, k2⟩
      show obind (stepD C run t o tr σ h) (fun r => traceA C run t l (fapp tr [r]) (r.v :: σ) r.h') = _
      rw [hs, obind_some, fapp_eq]
      exact k1
    | true =>
      rw [he, bq_true] at e2
      obtain ⟨e3, e4⟩ := bq_some (show bq (Nat.ble (flen h) (flen h')) (seqE C run fl t l (v :: σ) h') none = some r from e2)
      have hs : stepD C run t o tr σ h = some ⟨σ, h, v, h'⟩ := by
        unfold stepD
        rw [hn, bq_false, hh]
        show obind (vhO (o.op.f C run σ t h kVH)) _ = _
        rw [e1, obind_some, he, bq_true, e3]; rfl
      obtain ⟨tr', σ', h2, k1, k2⟩ := seqE_trace l (tr ++ [⟨σ, h, v, h'⟩]) (v :: σ) h' hp e4
      refine ⟨tr', σ', h2, ?_, k2⟩
      show obind (stepD C run t o tr σ h) (fun r => traceA C run t l (fapp tr [r]) (r.v :: σ) r.h') = _
      rw [hs, obind_some, fapp_eq]
      exact k1
theorem kdraw_seq {fl : List (Nat × Nat)} {t : Tms} {ops : List DOp} {r : Ex × St} (hp : plainD ops = true) (e : kNrm (seqE C run fl t ops [] h) = some r) : kDraw C run ops [] fl ⟨t, h⟩ = some r := by
  cases e1 : seqE C run fl t ops [] h with
  | none => rw [e1] at e; cases e
  | some q =>
    obtain ⟨tr, σ, h2, k1, rfl⟩ := seqE_trace ops [] [] h hp e1
    show kNrm (drawA C run fl t ops [] h) = some r
    unfold drawA
    rw [k1, obind_some]
    rw [e1] at e
    exact e
theorem ckN_eq (k : AV → Option Rs) (v : AV) (h' : AH) : ckN k (v, h') = k v := (rfl)
theorem ckE_eq (k : AV → AH → Option Rs) (v : AV) (h' : AH) : ckE h k (v, h') = bq (decide (h.length ≤ h'.length)) (k v h') none := by
  unfold ckE
  rw [nble, flen_eq, flen_eq]
end
end Go.Proofs.YtdkioifmieamoaaGreatDoor
namespace Go.Proofs.YtdkioifmieamoaaGreatDoor
set_option linter.unusedSimpArgs false
set_option linter.unusedVariables false
set_option linter.unnecessarySimpa false
section
variable {C : Cx} {run : Run} {lp : Lp} {s : St} {h : AH} {κ : Ka}
/-- The small heap goes on: its first m blocks stay. -/
def Fr (m : Nat) (h h' : AH) : Prop := h.length ≤ h'.length ∧ ∀ i, i < m → hget h' i = hget h i
theorem Fr.refl (m : Nat) (h : AH) : Fr m h h := ⟨Nat.le_refl _, fun _ _ => rfl⟩
theorem Fr.trans {m : Nat} {a b c : AH} (x : Fr m a b) (y : Fr m b c) : Fr m a c := ⟨Nat.le_trans x.1 y.1, fun i hi => (y.2 i hi).trans (x.2 i hi)⟩
theorem Fr.mono {m n : Nat} {a b : AH} (x : Fr m a b) (h : n ≤ m) : Fr n a b := ⟨x.1, fun i hi => x.2 i (by omega)⟩
theorem Fr.push {m : Nat} {h : AH} (hm : m ≤ h.length) (x : AH) : Fr m h (h ++ x) := ⟨by simp, fun i hi => hget_old (by omega) x⟩
theorem Fr.set {m n : Nat} {h : AH} (hm : m ≤ n) (x : Option Blk) : Fr m h (h.set n x) := ⟨by simp, fun i hi => by rw [hget_eq, hget_eq, List.getElem?_set_ne (by omega)]⟩
/-- The cells of a slice whose elements are one cell each. -/
def SlAt (h : AH) (v : AV) (cs : List AV) : Prop :=
  (cs = [] ∧ (v = .nils ∨ v = .sle)) ∨ (∃ row, v = .slp row cs.length ∧ row.take cs.length = cs) ∨ ∃ b o n row y e, v = .slo b o cs.length n 1 e ∧ hget h b = some (.cells row y) ∧ (row.drop o).take cs.length = cs ∧ o + cs.length ≤ row.length
theorem take_len {α : Type} {row cs : List α} (h : row.take cs.length = cs) : cs.length ≤ row.length := by
  have := congrArg List.length h
  rw [List.length_take] at this
  omega
theorem SlAt.lenA {v : AV} {cs : List AV} (r : SlAt h v cs) : lenA v = some cs.length := by
  rcases r with ⟨rfl, rfl | rfl⟩ | ⟨row, rfl, _⟩ | ⟨b, o, n, row, y, e, rfl, _⟩ <;> rfl
theorem SlAt.lenS {v : AV} {cs : List AV} (r : SlAt h v cs) (h' : AH) (κ : Ka) : lenS v h' κ = κ (.int 9223372036854775807 (cs.length : Int)) h' := by
  rcases r with ⟨rfl, rfl | rfl⟩ | ⟨row, rfl, _⟩ | ⟨b, o, n, row, y, e, rfl, _⟩ <;> rfl
theorem SlAt.plain {v : AV} {cs : List AV} (r : SlAt h v cs) : v.plain = true := by
  rcases r with ⟨rfl, rfl | rfl⟩ | ⟨row, rfl, _⟩ | ⟨b, o, n, row, y, e, rfl, _⟩ <;> rfl
theorem SlAt.nb {v : AV} {cs : List AV} (r : SlAt h v cs) : v.nb = true := by
  rcases r with ⟨rfl, rfl | rfl⟩ | ⟨row, rfl, _⟩ | ⟨b, o, n, row, y, e, rfl, _⟩ <;> rfl
theorem SlAt.cells {v : AV} {cs : List AV} (r : SlAt h v cs) : v.cells = [v] := by
  rcases r with ⟨rfl, rfl | rfl⟩ | ⟨row, rfl, _⟩ | ⟨b, o, n, row, y, e, rfl, _⟩ <;> rfl
theorem SlAt.lt {v : AV} {cs : List AV} (r : SlAt h v cs) : v.lt (flen h) = true := by
  rcases r with ⟨rfl, rfl | rfl⟩ | ⟨row, rfl, _⟩ | ⟨b, o, n, row, y, e, rfl, hb, _⟩
  · rfl
  · rfl
  · rfl
  · rw [lt_slo, flen_eq]; exact decide_eq_true (hget_lt (by rw [hb]; simp))
theorem SlAt.up {v : AV} {cs : List AV} {h' : AH} (r : SlAt h v cs) (f : Fr h.length h h') : SlAt h' v cs := by
  rcases r with r | r | ⟨b, o, n, row, y, e, rfl, hb, hc, hd⟩
  · exact .inl r
  · exact .inr (.inl r)
  · exact .inr (.inr ⟨b, o, n, row, y, e, rfl, by rw [f.2 b (hget_lt (by rw [hb]; simp))]; exact hb, hc, hd⟩)
theorem SlAt.elems {v : AV} {cs : List AV} (r : SlAt h v cs) : elemsA h 1 cs.length v = some cs := by
  rcases r with ⟨rfl, rfl | rfl⟩ | ⟨row, rfl, hr⟩ | ⟨b, o, n, row, y, e, rfl, hb, hr, hd⟩
  · rfl
  · rfl
  · show bq (Nat.ble (Nat.mul cs.length 1) (flen row)) (some (ftake (Nat.mul cs.length 1) row)) none = _
    have := take_len hr
    rw [nble, flen_eq, ftake_eq, show Nat.mul cs.length 1 = cs.length from Nat.mul_one _, bq_dec_pos this, hr]
  · unfold elemsA
    simp only [hb]
    show bq (Nat.ble (Nat.add o (Nat.mul cs.length 1)) (flen row)) (some (ftake (Nat.mul cs.length 1) (fdrop o row))) none = _
    rw [nble, flen_eq, ftake_eq, fdrop_eq, show Nat.mul cs.length 1 = cs.length from Nat.mul_one _, hr]
    exact bq_dec_pos hd _ _
/-- An element: its place, and what stands there. -/
theorem SlAt.idx {v : AV} {cs : List AV} (r : SlAt h v cs) {i : Nat} {c : AV} (hc : cs[i]? = some c) :
    ∃ p, AV.lt (flen h) p = true ∧ (∀ (k : Nat) (κ : Ka), idxS 1 v (.int k (i : Int)) h κ = κ p h) ∧ ∀ (κ : Ka), load1 p h κ = κ c h := by
  have hi : i < cs.length := (List.getElem?_eq_some_iff.1 hc).1
  rcases r with ⟨rfl, _⟩ | ⟨row, rfl, hr⟩ | ⟨b, o, n, row, y, e, rfl, hb, hr, hd⟩
  · simp at hi
  · refine ⟨.ptp row i, rfl, fun k κ => ?_, fun κ => ?_⟩
    · rw [idxS_p, bq_dec_pos hi, Nat.mul_one]
    · have : row[i]? = some c := by
        rw [← hr, List.getElem?_take_of_lt (by omega)] at hc; exact hc
      rw [load1_p, this]; rfl
  · refine ⟨.pto b (o + i), ?_, fun k κ => ?_, fun κ => ?_⟩
    · rw [lt_pto, flen_eq]; exact decide_eq_true (hget_lt (by rw [hb]; simp))
    · rw [idxS_o, bq_dec_pos hi, Nat.mul_one]
    · have : row[o + i]? = some c := by
        rw [← hr, List.getElem?_take_of_lt (by omega), List.getElem?_drop] at hc; exact hc
      rw [load1_o, hb]
      show obind row[o + i]? _ = _
      rw [this]; rfl
/-- An element that isn't there. -/
theorem bldS_0 (z : AV) (h : AH) (κ : Ka) : bldS 1 0 [z] [] h κ = κ (.slo h.length 0 0 0 1 true) (h ++ [some (.cells [] 0)]) := by
  show κ (.slo (flen h) 0 0 0 1 true) (fapp h [some (.cells [] 0)]) = _
  rw [flen_eq, fapp_eq]
theorem bldS_1 (z : AV) (k : Nat) (a : Int) (h : AH) (κ : Ka) : bldS 1 1 [z] [(0, .int k a)] h κ = κ (.slo h.length 0 1 1 1 true) (h ++ [some (.cells [.int k a] 0)]) := by
  have e : bldS 1 1 [z] [(0, .int k a)] h κ = κ (.slo (flen h) 0 1 1 1 true) (fapp h [some (.cells [.int k a] 0)]) := by kernel_rfl
  rw [e, flen_eq, fapp_eq]
theorem SlAt.new1 (h : AH) (k : Nat) (a : Int) : SlAt (h ++ [some (.cells [.int k a] 0)]) (.slo h.length 0 1 1 1 true) [.int k a] :=
  .inr (.inr ⟨h.length, 0, 1, [.int k a], 0, true, rfl, hget_top _ _, rfl, by simp⟩)
theorem lenA_some {v : AV} {cs : List AV} (r : SlAt h v cs) : lenA v = some cs.length := r.lenA
/-- A row that fills its block, lengthened. -/
theorem appA_at (ty : Nat) {by_ : Nat} (hby : by_ ≤ 1000) {b y : Nat} {e : Bool} {cs ds : List AV} {x : AV} (hb : hget h b = some (.cells cs y)) (hx : SlAt h x ds) (hp : plains ds = true) (hl : cs.length + ds.length ≤ 1000000) :
    ∃ b' y' e' h', (∀ κ : Ka, appA ty 1 by_ (.slo b 0 cs.length cs.length 1 e) x h κ = κ (.slo b' 0 (cs ++ ds).length (cs ++ ds).length 1 e') h') ∧ hget h' b' = some (.cells (cs ++ ds) y') ∧ h.length ≤ h'.length ∧ (∀ i, i ≠ b → i < h.length → hget h' i = hget h i) ∧ (b' = b ∨ h.length ≤ b') := by
  have hlb : b < h.length := hget_of_lt hb
  have step : ∀ κ : Ka, appA ty 1 by_ (.slo b 0 cs.length cs.length 1 e) x h κ = apC ty 1 by_ ds.length ds h κ b 0 cs.length cs.length e cs y := by
    intro κ
    unfold appA
    rw [hx.lenA, obind_some, hx.elems, obind_some, hp, nbeq, flen_eq, show Nat.mul ds.length 1 = ds.length from Nat.mul_one _, decide_eq_true rfl]
    show bq (Nat.beq 1 1) (cellsR h b (apC ty 1 by_ ds.length ds h κ b 0 cs.length cs.length e) _) none = _
    show cellsR h b _ _ = _
    unfold cellsR
    rw [hb]; rfl
  cases ds with
  | nil =>
    refine ⟨b, y, e, h.set b (some (.cells cs y)), fun κ => ?_, ?_, by simp, fun i hi hl => by rw [hget_set_ne (by omega)], .inl rfl⟩
    · rw [step]
      unfold apC
      rw [nble, bq_dec_pos (by simp), nble, flen_eq, bq_dec_pos (by show 0 + (cs.length + 0) * 1 ≤ cs.length; omega)]
      unfold setR
      rw [fset_eq, ftake_eq, fdrop_eq, fapp_eq, fapp_eq]
      show κ (.slo b 0 (cs.length + 0) cs.length 1 e) (h.set b (some (.cells (cs.take (0 + cs.length * 1) ++ ([] ++ cs.drop (0 + cs.length * 1 + 0))) y))) = _
      simp
    · rw [hget_set_same hlb]; simp
  | cons d ds =>
    generalize hD : d :: ds = D at *
    have hD1 : 1 ≤ D.length := by rw [← hD]; simp
    refine ⟨h.length, bq (Nat.beq y ty) ty 0, false, (bq e h (h.set b none)) ++ [some (.cells (cs ++ D) (bq (Nat.beq y ty) ty 0))], fun κ => ?_, ?_, ?_, ?_, .inr (Nat.le_refl _)⟩
    · rw [step]
      unfold apC
      rw [nble, bq_dec_neg (by show ¬ cs.length + D.length ≤ cs.length; omega)]
      have r1 : and (and (roomB by_ (Nat.add cs.length D.length)) (Nat.ble (Nat.add 0 (Nat.mul cs.length 1)) (flen cs))) (or e (Nat.beq 0 0)) = true := by
        unfold roomB
        rw [nble, nble, nble, flen_eq, decide_eq_true (by show (cs.length + D.length) * by_ ≤ 140737488355328; exact Nat.le_trans (Nat.mul_le_mul hl hby) (by decide)), decide_eq_true (by show cs.length + D.length ≤ 140737488355328; omega), decide_eq_true (by show 0 + cs.length * 1 ≤ cs.length; omega)]
        cases e <;> rfl
      rw [r1, bq_true, flen_eq, fapp_eq, fapp_eq, fset_eq, ftake_eq, fdrop_eq]
      show κ (.slo h.length 0 (cs.length + D.length) (cs.length + D.length) 1 false) (bq e h (h.set b none) ++ [some (.cells (List.take (cs.length * 1) (List.drop 0 cs) ++ D) (bq (Nat.beq y ty) ty 0))]) = _
      rw [Nat.mul_one, List.drop_zero, List.take_length, List.length_append]
    · have : (bq e h (h.set b none)).length = h.length := by cases e <;> simp [bq]
      rw [← this, hget_top]
    · cases e <;> simp [bq]
    · intro i hi hl
      have : (bq e h (h.set b none)).length = h.length := by cases e <;> simp [bq]
      rw [hget_old (by omega)]
      cases e with
      | true => rfl
      | false => show hget (h.set b none) i = _; rw [hget_set_ne (by omega)]
theorem upL_len (k : Nat) : ∀ l : List AV, (upL k l).length = l.length
  | [] => rfl
  | a :: r => by rw [upL_cons, List.length_cons, upL_len k r, List.length_cons]
theorem upL_drop (k : Nat) : ∀ (n : Nat) (l : List AV), upL k (l.drop n) = (upL k l).drop n
  | 0, _ => rfl
  | n + 1, [] => rfl
  | n + 1, a :: r => by rw [upL_cons, List.drop_succ_cons, List.drop_succ_cons, upL_drop k n r]
theorem upL_take (k : Nat) : ∀ (n : Nat) (l : List AV), upL k (l.take n) = (upL k l).take n
  | 0, _ => rfl
  | n + 1, [] => rfl
  | n + 1, a :: r => by rw [List.take_succ_cons, upL_cons, upL_cons, List.take_succ_cons, upL_take k n r]
/-- A row behind the caller's heap; a row without names. -/
theorem SlAt.shift {h1 : AH} {v : AV} {cs : List AV} (r : SlAt h1 v cs) (hu : ∀ k, upL k cs = cs) (h : AH) : SlAt (h ++ h1.map (bupO h.length)) (v.up h.length) cs := by
  rcases r with ⟨rfl, rfl | rfl⟩ | ⟨row, rfl, hr⟩ | ⟨b, o, n, row, y, e, rfl, hb, hr, hl⟩
  · exact .inl ⟨rfl, .inl rfl⟩
  · exact .inl ⟨rfl, .inr rfl⟩
  · exact .inr (.inl ⟨row, rfl, hr⟩)
  · refine .inr (.inr ⟨b + h.length, o, n, upL h.length row, y, e, rfl, ?_, ?_, ?_⟩)
    · rw [← fapp_eq, hget_app, if_neg (by omega), Nat.add_sub_cancel, ← fmap_eq, hget_map, hb]; rfl
    · rw [← upL_drop, ← upL_take, hr, hu]
    · rw [upL_len]; exact hl
theorem SlAt.pure {h1 : AH} {v : AV} {cs : List AV} (r : SlAt h1 v cs) (hl : v.lt 0 = true) (h : AH) : SlAt h v cs := by
  rcases r with r | r | ⟨b, o, n, row, y, e, rfl, _⟩
  · exact .inl r
  · exact .inr (.inl r)
  · rw [lt_slo] at hl; simp at hl
theorem Fr.shift (h h1 : AH) : Fr h.length h (h ++ h1.map (bupO h.length)) := Fr.push (Nat.le_refl _) _
theorem callA_imp {f : Nat} {args : List AV} {r : AV} {h1 : AH} (hx : C.ext f = none) (hp : ltL 0 args = true) (hm : C.memo f args = none) (hr : run f args [] = some (r, h1)) (hl : r.lt 0 = false) (hf : C.fz f = false) (ht : C.tr f = false) (ho : C.own f = false := by kernel_rfl) :
    callA C run f args h = some (r.up h.length, h ++ h1.map (bupO h.length)) := by
  unfold callA
  rw [hx, ho, hp, hm, hr]
  show bq true (obind (some (r, h1)) (importA C f h)) _ = _
  rw [bq_true, obind_some]
  unfold importA
  rw [hl, bq_false, hf, bq_false, ht, bq_false]
  unfold importU
  rw [flen_eq, fapp_eq, fmap_eq]
/-- A call, in whichever heap it runs. -/
theorem callA_any {f : Nat} {args : List AV} {Q : AH → AV → AH → Prop} (hx : C.ext f = none) (hm : ltL 0 args = true → C.memo f args = none) (hf : C.fz f = false) (ht : C.tr f = false) (ho : C.own f = false)
    (hr : ∀ h0, h0 = h ∨ (h0 = [] ∧ ltL 0 args = true) → ∃ r h1, run f args h0 = some (r, h1) ∧ Q h0 r h1)
    (up : ∀ r h1, Q [] r h1 → Q h (r.up h.length) (h ++ h1.map (bupO h.length))) (pu : ∀ r h1, Q [] r h1 → r.lt 0 = true → Q h r h) : ∃ r h', callA C run f args h = some (r, h') ∧ Q h r h' := by
  cases hp : ltL 0 args with
  | true =>
    obtain ⟨r, h1, e, q⟩ := hr [] (.inr ⟨rfl, hp⟩)
    cases hl : r.lt 0 with
    | true => exact ⟨r, h, callA_pure hx hp (hm hp) e hl ho, pu r h1 q hl⟩
    | false => exact ⟨_, _, callA_imp hx hp (hm hp) e hl hf ht ho, up r h1 q⟩
  | false =>
    obtain ⟨r, h1, e, q⟩ := hr h (.inl rfl)
    exact ⟨r, h1, callA_own hx hp ht e, q⟩
/-- A row that may be lengthened: it fills its block, which lies behind m. -/
def SlFull (m : Nat) (h : AH) (v : AV) (cs : List AV) : Prop := (cs = [] ∧ v = .nils) ∨ ∃ b y e, m ≤ b ∧ v = .slo b 0 cs.length cs.length 1 e ∧ hget h b = some (.cells cs y)
theorem SlFull.at {m : Nat} {v : AV} {cs : List AV} (r : SlFull m h v cs) : SlAt h v cs := by
  rcases r with ⟨rfl, rfl⟩ | ⟨b, y, e, _, rfl, hb⟩
  · exact .inl ⟨rfl, .inl rfl⟩
  · exact .inr (.inr ⟨b, 0, _, cs, y, e, rfl, hb, by simp, by simp⟩)
theorem SlFull.up {m : Nat} {h' : AH} {v : AV} {cs : List AV} (r : SlFull m h v cs) (f : ∀ i, m ≤ i → i < h.length → hget h' i = hget h i) : SlFull m h' v cs := by
  rcases r with r | ⟨b, y, e, hm, rfl, hb⟩
  · exact .inl r
  · exact .inr ⟨b, y, e, hm, rfl, by rw [f b hm (hget_of_lt hb)]; exact hb⟩
theorem app_full (ty : Nat) {by_ : Nat} (hby : by_ ≤ 1000) {m : Nat} {v x : AV} {cs ds : List AV} (hm : m ≤ h.length) (r : SlFull m h v cs) (hx : SlAt h x ds) (hp : plains ds = true) (hl : cs.length + ds.length ≤ 1000000) :
    ∃ v' h', (∀ κ : Ka, appA ty 1 by_ v x h κ = κ v' h') ∧ SlFull m h' v' (cs ++ ds) ∧ Fr m h h' := by
  rcases r with ⟨rfl, rfl⟩ | ⟨b, y, e, hb, rfl, hg⟩
  · have step : ∀ κ : Ka, appA ty 1 by_ .nils x h κ = apNew ty 1 by_ ds.length ds .nils h κ := by
      intro κ
      unfold appA
      rw [hx.lenA, obind_some, hx.elems, obind_some, hp, nbeq, flen_eq, show Nat.mul ds.length 1 = ds.length from Nat.mul_one _, decide_eq_true rfl]
      rfl
    cases ds with
    | nil => exact ⟨.nils, h, fun κ => by rw [step]; rfl, .inl ⟨rfl, rfl⟩, Fr.refl _ _⟩
    | cons d ds =>
      generalize hD : d :: ds = D at *
      have hD1 : D.length ≠ 0 := by rw [← hD]; simp
      simp at hl
      refine ⟨.slo h.length 0 D.length D.length 1 false, h ++ [some (.cells D ty)], fun κ => ?_, .inr ⟨h.length, ty, false, hm, by simp, by rw [hget_top]; simp⟩, Fr.push hm _⟩
      rw [step]
      unfold apNew
      rw [nbeq, bq_dec_neg hD1]
      have r1 : and (AV.isn .nils) (roomB by_ D.length) = true := by
        unfold roomB
        rw [nble, nble, decide_eq_true (by show D.length * by_ ≤ 140737488355328; exact Nat.le_trans (Nat.mul_le_mul hl hby) (by decide)), decide_eq_true (by omega)]
        rfl
      rw [r1, bq_true, flen_eq, fapp_eq]
      rfl
  · obtain ⟨b', y', e', h', g1, g2, g3, g4, g5⟩ := appA_at ty hby hg hx hp hl (e := e)
    refine ⟨_, h', g1, .inr ⟨b', y', e', ?_, rfl, g2⟩, g3, fun i hi => g4 i (by omega) (by omega)⟩
    rcases g5 with rfl | g5 <;> omega
end
end Go.Proofs.YtdkioifmieamoaaGreatDoor
namespace Go.Proofs.YtdkioifmieamoaaGreatDoor
set_option linter.unusedSimpArgs false
set_option linter.unusedVariables false
set_option linter.unnecessarySimpa false
noncomputable section
abbrev Kt := St → Option Rs
def kcN (κn : Kt) (κx : Ex → Kt) (s : St) (e : Ex) : Option Rs := Ex.rec (motive := fun _ => Option Rs) (κn s) (fun i => κx (.exit i) s) (κx .ret s) e
/-- What comes behind a code that was run. -/
def kcR (κn : Kt) (κx : Ex → Kt) (x : Option (Ex × St)) : Option Rs := obind x fun r => kcN κn κx r.2 r.1
def kcIf (v : AV) (a b : Option Rs) : Option Rs := avBool v fun c => bq c a b
def kcO (id : Nat) (κn : Kt) (κx : Ex → Kt) (e : Ex) (s : St) : Option Rs := Ex.rec (motive := fun _ => Option Rs) (κn s) (fun i => bq (Nat.beq i id) (κn s) (κx (.exit i) s)) (κx .ret s) e
/-- A code, with what comes behind it. -/
def kc (C : Cx) (run : Run) (lp : Lp) (k : K) : St → Kt → (Ex → Kt) → Option Rs :=
  K.rec (motive := fun _ => St → Kt → (Ex → Kt) → Option Rs)
    (fun s κn _ => κn s)
    (fun l fl s κn _ => opsE C run s.t l (fun σ h => κn ⟨flushA σ s.t fl, h⟩) [] s.h)
    (fun l pl fl s κn κx => kcR κn κx (kDraw C run l pl fl s))
    (fun l1 p1 f1 l2 p2 f2 s κn κx => kcR κn κx (kDraw2 C run l1 p1 f1 l2 p2 f2 s))
    (fun _ _ a b s κn κx => a s (fun s => b s κn κx) κx)
    (fun c _ _ a b s κn κx => kcIf (ev C [] s.t c) (a s κn κx) (b s κn κx))
    (fun id _ b s κn κx => b s κn (kcO id κn κx))
    (fun b _ s κn κx => kcR κn κx (lp b s))
    (fun f p a b _ _ s κn κx => kcR κn κx (kx C run lp (.rf f p a b) s))
    (fun pre x fl q c ent fl1 id it r _ s κn κx => kcR κn κx (kx C run lp (.rm pre x fl q c ent fl1 id it r) s))
    (fun e s κn κx => kcN κn κx s e)
    (fun _ _ _ => none) k
/-- A part of a code. -/
def kSub (k : K) (i : Nat) : K :=
  match k with
  | .seq a b => bq (Nat.beq i 0) a b
  | .cond _ a b => bq (Nat.beq i 0) a b
  | .block _ b => b
  | .loop b => b
  | .rm _ _ _ _ _ _ _ _ _ r => r
  | _ => .no
def kAt (p : List Nat) : K → K := List.rec (motive := fun _ => K → K) (fun k => k) (fun i _ ih k => ih (kSub k i)) p
/-- A function's code. -/
def kOf (C : Cx) (f : Nat) : K := Option.rec (motive := fun _ => K) .no (fun F => F.k) (fkAt C f)
end
/-- Nothing is asked behind, or one thing is. -/
def NatF (F : Ka → Option Rs) : Prop := (∀ κ, F κ = none) ∨ ∃ v h, ∀ κ, F κ = κ v h
section
variable {α : Type} {C : Cx} {run : Run} {lp : Lp} {σ : List AV} {T : Tms} {h : AH} {x y z : AV} {ds : List (Option Nat)}
theorem N0 : NatF fun _ => none := .inl fun _ => rfl
theorem N1 (v : AV) (h : AH) : NatF fun κ => κ v h := .inr ⟨v, h, fun _ => rfl⟩
theorem Nb (c : Bool) {F G : Ka → Option Rs} (hF : NatF F) (hG : NatF G) : NatF fun κ => bq c (F κ) (G κ) := by cases c <;> assumption
theorem No (o : Option α) {F : α → Ka → Option Rs} (H : ∀ a, NatF (F a)) : NatF fun κ => obind o fun a => F a κ := by
  cases o with
  | none => exact N0
  | some a => exact H a
theorem NInt (x : AV) {F : Nat → Int → Ka → Option Rs} (H : ∀ k n, NatF (F k n)) : NatF fun κ => avInt x fun k n => F k n κ := by cases x <;> first | exact H _ _ | exact N0
theorem NBool (x : AV) {F : Bool → Ka → Option Rs} (H : ∀ b, NatF (F b)) : NatF fun κ => avBool x fun b => F b κ := by cases x <;> first | exact H _ | exact N0
theorem NStr (x : AV) {F : List Nat → Ka → Option Rs} (H : ∀ b, NatF (F b)) : NatF fun κ => avStr x fun b => F b κ := by cases x <;> first | exact H _ | exact N0
theorem NPtr (x : AV) {F : Nat → Nat → Ka → Option Rs} {G : List AV → Nat → Ka → Option Rs} (H : ∀ b o, NatF (F b o)) (H' : ∀ b o, NatF (G b o)) : NatF fun κ => avPtr x (fun b o => F b o κ) (fun c o => G c o κ) := by
  cases x <;> first | exact H _ _ | exact H' _ _ | exact N0
theorem NAgg (x : AV) {F : List AV → Ka → Option Rs} (H : ∀ b, NatF (F b)) : NatF fun κ => avAgg x fun b => F b κ := by cases x <;> first | exact H _ | exact N0
theorem NTup (x : AV) {F : List AV → Ka → Option Rs} (H : ∀ b, NatF (F b)) : NatF fun κ => avTup x fun b => F b κ := by cases x <;> first | exact H _ | exact N0
theorem NSli (x : AV) {A : Ka → Option Rs} {F : Nat → Nat → Nat → Nat → Nat → Bool → Ka → Option Rs} {G : List AV → Nat → Ka → Option Rs} (HA : NatF A) (H : ∀ b o l c z e, NatF (F b o l c z e)) (H' : ∀ b o, NatF (G b o)) :
    NatF fun κ => avSli x (A κ) (fun b o l c z e => F b o l c z e κ) (fun c o => G c o κ) := by
  cases x <;> first | exact H _ _ _ _ _ _ | exact H' _ _ | exact HA | exact N0
theorem NFn (x : AV) {F : Nat → List AV → List AV → Ka → Option Rs} (H : ∀ b c d, NatF (F b c d)) : NatF fun κ => avFn x fun b c d => F b c d κ := by cases x <;> first | exact H _ _ _ | exact N0
theorem NSome (x : AV) {A : Ka → Option Rs} (HA : NatF A) : NatF fun κ => avSome x (A κ) := by cases x <;> first | exact HA | exact N0
theorem NCells (h : AH) (b : Nat) {F : List AV → Nat → Ka → Option Rs} (H : ∀ cs y, NatF (F cs y)) : NatF fun κ => cellsK h b fun cs y => F cs y κ :=
  No (hget h b) fun B => by cases B <;> first | exact H _ _ | exact N0
theorem NRows (h : AH) (b : Nat) {F : List AV → Nat → Ka → Option Rs} {G : Nat → List (List AV) → Nat → Ka → Option Rs} (H : ∀ cs y, NatF (F cs y)) (H' : ∀ z ll y, NatF (G z ll y)) : NatF fun κ => cellsR h b (fun cs y => F cs y κ) (fun z ll y => G z ll y κ) :=
  No (hget h b) fun B => by cases B <;> first | exact H _ _ | exact H' _ _ _ | exact N0
theorem NMap (b : Blk) {F : List AV → List AV → Ka → Option Rs} (H : ∀ cs y, NatF (F cs y)) : NatF fun κ => blkM b fun cs y => F cs y κ := by cases b <;> first | exact H _ _ | exact N0
theorem NX (x : Option (AV × AH)) : NatF fun κ => withX κ x := by
  rcases x with _ | ⟨v, h⟩
  · exact N0
  · exact N1 v h
theorem NV (h : AH) (v : Option AV) : NatF fun κ => withV κ h v := No v fun v => N1 v h
theorem NPos (i : Int) {F : Nat → Ka → Option Rs} (H : ∀ b, NatF (F b)) : NatF fun κ => posN i fun b => F b κ := by cases i <;> first | exact H _ | exact N0
theorem NinB (i : Int) (n : Nat) {F : Nat → Ka → Option Rs} (H : ∀ b, NatF (F b)) : NatF fun κ => inB i n fun b => F b κ := NPos i fun m => Nb _ (H m) N0
theorem NBds (len cap : Nat) (lo hi mx : Option AV) {F : Nat → Nat → Nat → Ka → Option Rs} (H : ∀ l u m, NatF (F l u m)) : NatF fun κ => slBds len cap lo hi mx fun l u m => F l u m κ :=
  No _ fun l => No _ fun u => No _ fun m => Nb _ (H l u m) N0
theorem n_newA (b : Blk) : NatF fun κ => newA h b κ := N1 _ _
theorem n_load1 : NatF fun κ => load1 x h κ := NPtr x (fun b o => NRows h b (fun cs _ => NV h _) fun z ll _ => No _ fun l => NV h _) fun c o => NV h _
theorem n_loadG (n : Nat) : NatF fun κ => loadG n x h κ := NPtr x (fun b o => NRows h b (fun cs _ => Nb _ (N1 _ _) N0) fun z ll _ => No _ fun l => Nb _ (N1 _ _) (Nb _ (N1 _ _) N0)) fun c o => Nb _ (N1 _ _) N0
theorem n_store1 : NatF fun κ => store1 x y h κ := NPtr x (fun b o => Nb _ (NRows h b (fun cs y => No _ fun _ => N1 _ _) fun z ll y => No _ fun l => No _ fun _ => N1 _ _) N0) fun c o => N0
theorem n_storeG (n : Nat) : NatF fun κ => storeG n x y h κ := NAgg y fun vs => NPtr x (fun b o => Nb _ (NRows h b (fun cs y => Nb _ (N1 _ _) N0) fun z ll y => No _ fun l => Nb _ (N1 _ _) N0) N0) fun c o => N0
theorem n_arith (g : Int → Int → Int) : NatF fun κ => arith g x y h κ := NInt x fun k a => NInt y fun k' b => Nb _ (N1 _ _) N0
theorem n_cmp (g : Int → Int → Bool) : NatF fun κ => cmp g x y h κ := NInt x fun k a => NInt y fun k' b => Nb _ (N1 _ _) N0
theorem n_quo : NatF fun κ => quoA x y h κ := NInt x fun k a => NInt y fun k' b => Nb _ (N1 _ _) N0
theorem n_rem : NatF fun κ => remA x y h κ := NInt x fun k a => NInt y fun k' b => Nb _ (N1 _ _) N0
theorem n_bit (m t : Nat) (g : Nat → Nat → Nat) : NatF fun κ => bitA m t g x y h κ := NInt x fun k a => Nb _ (NInt y fun k' b => Nb _ (N1 _ _) N0) N0
theorem n_shl (m w : Nat) : NatF fun κ => shlA m w x y h κ := NInt x fun k a => NInt y fun k' b => NPos b fun s => Nb _ (N1 _ _) N0
theorem n_shr (m w : Nat) : NatF fun κ => shrA m w x y h κ := NInt x fun k a => NInt y fun k' b => NPos b fun s => Nb _ (N1 _ _) N0
theorem n_cvI (m : Nat) : NatF fun κ => cvI m x h κ := NInt x fun _ n => N1 _ _
theorem n_neg : NatF fun κ => negA x h κ := NInt x fun _ n => N1 _ _
theorem n_not : NatF fun κ => notA x h κ := NBool x fun _ => N1 _ _
theorem n_cpl (m t : Nat) : NatF fun κ => cplA m t x h κ := NInt x fun _ n => Nb _ (N1 _ _) N0
theorem n_minmax (m : Bool) : NatF fun κ => minmax m x y h κ := NInt x fun k a => NInt y fun k' b => Nb _ (N1 _ _) N0
theorem n_strCmp (g : List Nat → List Nat → Bool) : NatF fun κ => strCmp g x y h κ := NStr x fun _ => NStr y fun _ => N1 _ _
theorem n_strAdd : NatF fun κ => strAdd x y h κ := NStr x fun _ => NStr y fun _ => Nb _ (N1 _ _) N0
theorem n_strId : NatF fun κ => strId x h κ := NStr x fun _ => N1 _ _
theorem n_eql (ti : TI) : NatF fun κ => eqlA ti x y h κ := No _ fun _ => N1 _ _
theorem n_neq (ti : TI) : NatF fun κ => neqA ti x y h κ := No _ fun _ => N1 _ _
theorem n_lenS : NatF fun κ => lenS x h κ := NSli x (N1 _ _) (fun _ _ _ _ _ _ => N1 _ _) fun _ _ => N1 _ _
theorem n_lenT : NatF fun κ => lenT x h κ := NStr x fun _ => N1 _ _
theorem n_lenM : NatF fun κ => lenM x h κ := No _ fun _ => N1 _ _
theorem n_strBytes : NatF fun κ => strBytes x h κ := NStr x fun _ => N1 _ _
theorem n_cvSl : NatF fun κ => cvSl x h κ := NSli x N0 (fun b _ _ _ _ _ => NCells h b fun _ _ => N1 _ _) fun _ _ => N0
theorem n_bytesStr : NatF fun κ => bytesStr x h κ := No _ fun _ => No _ fun _ => No _ fun _ => NSli x (N1 _ _) (fun _ _ _ _ _ _ => N1 _ _) fun _ _ => N1 _ _
theorem n_moveP (n : Nat) : NatF fun κ => moveP n x h κ := NPtr x (fun _ _ => N1 _ _) fun _ _ => N1 _ _
theorem n_idxA (n sz : Nat) : NatF fun κ => idxA n sz x y h κ := NInt y fun _ i => NinB i n fun m => n_moveP _
theorem n_idxS (sz : Nat) : NatF fun κ => idxS sz x y h κ := NInt y fun _ i => NSli x N0 (fun b o l c z e => NinB i l fun m => Nb _ (N1 _ _) N0) fun cs l => NinB i l fun m => N1 _ _
theorem n_idxT : NatF fun κ => idxT x y h κ := NStr x fun l => NInt y fun _ i => NPos i fun m => No _ fun _ => N1 _ _
theorem n_fld1 (o : Nat) : NatF fun κ => fld1 o x h κ := NAgg x fun cs => NV h _
theorem n_fldG (o n : Nat) : NatF fun κ => fldG o n x h κ := NAgg x fun cs => Nb _ (N1 _ _) N0
theorem n_idxV1 (n sz : Nat) : NatF fun κ => idxV1 n sz x y h κ := NInt y fun _ i => NinB i n fun m => n_fld1 _
theorem n_idxVG (n sz : Nat) : NatF fun κ => idxVG n sz x y h κ := NInt y fun _ i => NinB i n fun m => n_fldG _ _
theorem n_ext (i : Nat) : NatF fun κ => extA i x h κ := NTup x fun cs => NV h _
theorem n_nilCk : NatF fun κ => nilCk x h κ := NSome x (N1 _ _)
theorem n_slT (lo hi : Option AV) : NatF fun κ => slT x lo hi h κ := NStr x fun s => No _ fun l => No _ fun u => Nb _ (N1 _ _) N0
theorem n_slS (sz : Nat) (lo hi mx : Option AV) : NatF fun κ => slS sz x lo hi mx h κ :=
  NSli x (NBds _ _ _ _ _ fun _ _ _ => N1 _ _) (fun b o l c z e => NBds _ _ _ _ _ fun _ _ _ => Nb _ (Nb _ (N1 _ _) (N1 _ _)) N0) fun cs l => NBds _ _ _ _ _ fun _ _ _ => Nb _ (Nb _ (N1 _ _) (N1 _ _)) N0
theorem n_slA (n sz : Nat) (lo hi : Option AV) : NatF fun κ => slA n sz x lo hi h κ :=
  NPtr x (fun b o => NCells h b fun cs _ => Nb _ (NBds _ _ _ _ _ fun _ _ _ => Nb _ (N1 _ _) (N1 _ _)) N0) fun _ _ => N0
theorem n_mkSl (sz by_ : Nat) (ze : List AV) : NatF fun κ => mkSl sz by_ ze x y h κ := NInt x fun k l => NInt y fun k' c => NPos l fun l => NPos c fun c => Nb _ (N1 _ _) N0
theorem n_bld (p : Nat → Option (Nat × Nat)) (ze : List AV) (ps : List (Nat × AV)) : NatF fun κ => bldA p ze ps h κ := No _ fun _ => N1 _ _
theorem n_bldS (sz len : Nat) (ze : List AV) (ps : List (Nat × AV)) : NatF fun κ => bldS sz len ze ps h κ := Nb _ (No _ fun _ => N1 _ _) N0
theorem n_look (ki ei : TI) (ok : Bool) : NatF fun κ => lookA ki ei ok x y h κ := No _ fun _ => Nb _ (No _ fun _ => NV h _) N0
theorem n_mapSet (ki : TI) : NatF fun κ => mapSetA ki x y z h κ := by
  cases x <;> first | exact N0 | exact No _ fun b => NMap b fun _ _ => Nb _ (No _ fun _ => N1 _ _) N0
theorem n_del (ki : TI) : NatF fun κ => delA ki x y h κ := by
  cases x <;> first | exact N0 | exact Nb _ (N1 _ _) N0 | exact No _ fun b => NMap b fun _ _ => Nb _ (No _ fun _ => N1 _ _) N0
theorem n_clr (sz : Nat) (ze : List AV) : NatF fun κ => clrA sz ze x h κ :=
  NSli x (N1 _ _) (fun b o l c z e => Nb _ (N1 _ _) (Nb _ (NCells h b fun cs yy => Nb _ (N1 _ _) N0) N0)) fun _ _ => Nb _ (N1 _ _) N0
theorem n_app (ty sz by_ : Nat) : NatF fun κ => appA ty sz by_ x y h κ :=
  No _ fun n => No _ fun new => Nb _ (NSli x (Nb _ (N1 _ _) (Nb _ (N1 _ _) N0)) (fun b o l c z e => Nb _ (NRows h b (fun cs yy => Nb _ (Nb _ (N1 _ _) N0) (Nb _ (N1 _ _) N0)) fun z ll yy => Nb _ (Nb _ (Nb _ (N1 _ _) N0) (Nb _ (N1 _ _) N0)) N0) N0) fun _ _ => Nb _ (N1 _ _) N0) N0
theorem n_copy (sz : Nat) : NatF fun κ => copyA sz x y h κ :=
  No _ fun n => No _ fun m => No _ fun new => Nb _ (NSli x (N1 _ _) (fun b o l c z e => Nb _ (NCells h b fun cs yy => Nb _ (N1 _ _) N0) N0) fun _ _ => Nb _ (N1 _ _) N0) N0
theorem n_box (ty : Nat) : NatF fun κ => boxA ty x h κ := Nb _ (n_newA _) N0
theorem n_pick : NatF fun κ => pickA x y z h κ := NBool x fun _ => N1 _ _
theorem n_callV (args : List AV) : NatF fun κ => avFn x (callV C run args h κ) := NFn x fun f a c => NX _
theorem N_no : NatF (no.f C run σ T h) := N0
theorem N_ty (t : Nat) {f : TI → OK} (H : ∀ ti, NatF ((f ti).f C run σ T h)) : NatF ((tyK C t f).f C run σ T h) := by
  unfold tyK
  split
  · exact H _
  · exact N_no
theorem N_bq (c : Bool) {k l : OK} (hk : NatF (k.f C run σ T h)) (hl : NatF (l.f C run σ T h)) : NatF ((bq c k l).f C run σ T h) := by cases c <;> assumption
theorem N_nz (n : Nat) {k : OK} (hk : NatF (k.f C run σ T h)) : NatF ((nz n k).f C run σ T h) := N_bq _ N_no hk
theorem N_int (op : BinOp) (k : IntKind) (a b : Od) : NatF ((intOp op k a b).f C run σ T h) := by
  cases op <;> first | exact n_arith _ | exact n_cmp _ | exact n_quo | exact n_rem | exact n_bit _ _ _ | exact n_shl _ _ | exact n_shr _ _
theorem N_str (op : BinOp) (a b : Od) : NatF ((strOp op a b).f C run σ T h) := by
  cases op <;> first | exact n_strAdd | exact n_strCmp _ | exact N_no
theorem N_bin (op : BinOp) (ti : TI) (a b : Od) : NatF ((binK op ti a b).f C run σ T h) := by
  unfold binK
  split
  · exact N_int _ _ _ _
  · exact N_str _ _ _
  · split
    · exact n_eql _
    · exact n_neq _
    · exact N_no
theorem N_un (op : UnOp) (ti : TI) (a : Od) : NatF ((unK op ti a).f C run σ T h) := by
  unfold unK
  split
  · exact n_neg
  · exact n_not
  · exact n_cpl _ _
  · exact N_no
theorem N_conv (sd : Bool) (si di : TI) (a : Od) : NatF ((convK C sd si di a).f C run σ T h) := by
  unfold convK
  split
  · exact n_cvI _
  · exact n_strId
  · exact N_bq _ n_strBytes N_no
  · exact N_bq _ n_bytesStr N_no
  · exact N_bq _ n_cvSl N_no
  · exact N_no
theorem N_call (c : Call) : NatF ((callK C c ds).f C run σ T h) := by
  unfold callK
  split
  · exact NX _
  · exact n_callV _
  · split
    · refine N_ty _ fun ti => ?_
      split
      · exact n_lenT
      · exact n_lenS
      · exact n_lenM
      · exact N1 _ _
      · exact N_no
    · exact N_no
  · split
    · refine N_ty _ fun ti => N_ty _ fun ui => ?_
      split
      · exact N_ty _ fun ei => N_nz _ (N_nz _ (n_app _ _ _))
      · exact N_ty _ fun ei => N_nz _ (N_nz _ (n_app _ _ _))
      · exact N_no
    · exact N_no
  · split
    · refine N_ty _ fun ti => ?_
      split
      · exact N_ty _ fun ei => N_nz _ (n_copy _)
      · exact N_no
    · exact N_no
  · split
    · exact n_minmax _
    · exact N_no
  · split
    · exact n_minmax _
    · exact N_no
  · split
    · refine N_ty _ fun ti => ?_
      split
      · exact N_ty _ fun ki => n_del _
      · exact N_no
    · exact N_no
  · split
    · refine N_ty _ fun ti => ?_
      split
      · exact N_ty _ fun ei => N_nz _ (n_clr _ _)
      · exact N_no
    · exact N_no
  · exact N_no
theorem N_op (o : Op) : NatF ((opK C ds o).f C run σ T h) := by
  cases o
  case move x => exact N1 _ _
  case assign x => exact N1 _ _
  case pick c x y => exact n_pick
  case alloc el => exact N_ty _ fun ti => n_newA _
  case box el x => exact n_box _
  case build t ps =>
    refine N_ty _ fun ti => ?_
    split
    · exact N_bq _ (n_bld _ _ _) N_no
    · exact N_ty _ fun ei => n_bld _ _ _
    · exact N_no
  case buildSlice t n ps =>
    refine N_ty _ fun ti => ?_
    split
    · exact N_ty _ fun ei => N_nz _ (n_bldS _ _ _ _)
    · exact N_no
  case insert t m k x =>
    refine N_ty _ fun ti => ?_
    split
    · exact N_ty _ fun ei => n_mapSet _
    · exact N_no
  case mapUpdate t m k x =>
    refine N_ty _ fun ti => ?_
    split
    · exact N_ty _ fun ei => n_mapSet _
    · exact N_no
  case load t p => exact N_ty _ fun ti => N_bq _ (n_loadG _) n_load1
  case store t p x => exact N_ty _ fun ti => N_bq _ (n_storeG _) n_store1
  case nilCheck x => exact n_nilCk
  case binOp op t x y ty => exact N_ty _ fun ti => N_bin _ _ _ _
  case unOp op t x => exact N_ty _ fun ti => N_un _ _ _
  case convert s d x => exact N_ty _ fun si => N_ty _ fun di => N_conv _ _ _ _
  case makeFunc fn fi ca => cases fn <;> first | exact N1 _ _ | exact N_no
  case makeMap t r => cases r <;> first | exact N1 _ _ | exact N_no
  case makeSlice t l c =>
    refine N_ty _ fun ti => ?_
    split
    · exact N_ty _ fun ei => N_nz _ (n_mkSl _ _ _)
    · exact N_no
  case slice t x lo hi mx =>
    refine N_ty _ fun ti => ?_
    split
    · split
      · exact n_slT _ _
      · exact N_no
    · exact N_ty _ fun ei => n_slS _ _ _ _
    · split
      · exact N_ty _ fun ei => N_nz _ (n_slA _ _ _ _)
      · exact N_no
    · exact N_no
  case fieldAddr t x f =>
    show NatF ((match fieldOf C t f with | some (off, ui) => nz ui.size (OK.mk (o1 (moveP off) (od ds x))) | none => no).f C run σ T h)
    split
    · exact N_nz _ (n_moveP _)
    · exact N_no
  case field t x f =>
    show NatF ((match fieldOf C t f with | some (off, ui) => bq ui.agg (OK.mk (o1 (fldG off ui.size) (od ds x))) (OK.mk (o1 (fld1 off) (od ds x))) | none => no).f C run σ T h)
    split
    · exact N_bq _ (n_fldG _ _) (n_fld1 _)
    · exact N_no
  case indexAddr t x i =>
    refine N_ty _ fun ti => ?_
    split
    · exact N_ty _ fun ei => n_idxA _ _
    · exact N_ty _ fun ei => n_idxS _
    · exact N_no
  case index t x i =>
    refine N_ty _ fun ti => ?_
    split
    · exact N_ty _ fun ei => N_bq _ (n_idxVG _ _) (n_idxV1 _ _)
    · exact n_idxT
    · exact N_no
  case lookup t x i cok =>
    refine N_ty _ fun ti => ?_
    split
    · exact N_ty _ fun ki => N_ty _ fun ei => n_look _ _ _
    · exact N_no
  case extract x i => exact n_ext _
  case call c => exact N_call c
  all_goals exact N_no
theorem N_guard (x : Od) (w : Bool) {k : OK} (hk : NatF (k.f C run σ T h)) : NatF ((OK.mk (guardA x w k.f)).f C run σ T h) := No _ fun b => Nb b hk (N1 _ _)
theorem N_gd (ops : List Oper) (g : Option (Nat × Bool)) {k : OK} (hk : NatF (k.f C run σ T h)) : NatF ((gdK ops ds g k).f C run σ T h) := by
  unfold gdK
  split
  · exact hk
  · split
    · split
      · exact N_guard _ _ hk
      · exact N_no
    · exact N_no
end
/-- All operations of a code are such. -/
def NatO (o : OK) : Prop := ∀ C run σ T h, NatF (o.f C run σ T h)
def NatO' (C : Cx) (o : OK) : Prop := ∀ run σ T h, NatF (o.f C run σ T h)
def NatK (C : Cx) (k : K) : Prop :=
  K.rec (motive := fun _ => Prop) True (fun l _ => ∀ o ∈ l, NatO' C o) (fun _ _ _ => True) (fun _ _ _ _ _ _ => True) (fun _ _ a b => a ∧ b) (fun _ _ _ a b => a ∧ b) (fun _ _ b => b) (fun _ b => b) (fun _ _ _ _ _ _ => True)
    (fun _ _ _ _ _ _ _ _ _ _ r => r) (fun _ => True) True k
theorem compL_nat (C : Cx) (ops : List Oper) : ∀ (l : List Oper) (ds : List (Option Nat)), ∀ o ∈ compL C ops ds l, NatO' C o
  | [], _, o, ho => by cases ho
  | a :: r, ds, o, ho => by
    rcases List.mem_cons.1 ho with rfl | ho
    · exact fun run σ T h => N_gd ops a.guard (N_op a.op)
    · exact compL_nat C ops r (a.dst :: ds) o ho
theorem comp_nat (C : Cx) (ps : List Nat) : ∀ c : Code, NatK C (comp C ps c)
  | .skip => trivial
  | .region _ ops d => by
    show NatK C (bq d (bq (drawOk C ops) (.draw _ _ _) (dr2K C ps ops)) (.reg (compL C ops.toList [] ops.toList) _))
    cases d with
    | false => exact compL_nat C _ _ _
    | true =>
      show NatK C (bq (drawOk C ops) (.draw _ _ _) (dr2K C ps ops))
      cases drawOk C ops with
      | true => exact trivial
      | false =>
        show NatK C (dr2K C ps ops)
        unfold dr2K
        split
        · rename_i i j _
          cases dr2Ok C ops i j <;> exact trivial
        · exact trivial
  | .seq a b => by
    have ha := comp_nat C ps a
    have hb := comp_nat C ps b
    show NatK C (seqK C ps a b (comp C ps a) (comp C ps b))
    revert ha hb
    generalize comp C ps a = ka
    generalize comp C ps b = kb
    intro ha hb
    unfold seqK
    split
    · split
      · exact hb.2.2.2
      · exact ⟨ha, hb⟩
    · exact ⟨ha, hb⟩
  | .cond c a b => ⟨comp_nat C ps a, comp_nat C ps b⟩
  | .block _ b => comp_nat C ps b
  | .loop b => comp_nat C ps b
  | .rangeFunc _ pa a b => by
    unfold comp
    split
    · cases and (calmC C a) (calmC C b) <;> trivial
    · trivial
  | .exit _ => trivial
  | .scope b => comp_nat C ps b
  | .label _ => trivial
  | .goto _ => trivial
  | .ret => trivial
  | .refuse _ => trivial
theorem kSub_nat {C : Cx} {k : K} (i : Nat) (hk : NatK C k) : NatK C (kSub k i) := by
  cases k with
  | seq a b => show NatK C (bq _ a b); cases Nat.beq i 0 <;> first | exact hk.1 | exact hk.2
  | cond c a b => show NatK C (bq _ a b); cases Nat.beq i 0 <;> first | exact hk.1 | exact hk.2
  | block _ b => exact hk
  | loop b => exact hk
  | rm _ _ _ _ _ _ _ _ _ r => exact hk
  | _ => exact trivial
theorem kAt_nat {C : Cx} : ∀ (p : List Nat) {k : K}, NatK C k → NatK C (kAt p k)
  | [], _, hk => hk
  | i :: p, _, hk => kAt_nat p (kSub_nat i hk)
theorem fkOf_nat {C : Cx} {fn : Func} {F : FK} (e : fkOf C fn = some F) : NatK C F.k := by
  unfold fkOf at e
  split at e
  · rename_i c _
    obtain ⟨_, e2⟩ := bq_some e
    cases e2
    exact comp_nat C _ c
  · cases e
theorem kOf_nat (C : Cx) (f : Nat) : NatK C (kOf C f) := by
  unfold kOf fkAt
  cases hf : C.fn f with
  | none => exact trivial
  | some fn =>
    show NatK C (Option.rec (motive := fun _ => K) .no (fun F => F.k) (fkOf C fn))
    cases hk : fkOf C fn with
    | none => exact trivial
    | some F => exact fkOf_nat hk
section
variable {C : Cx} {run : Run} {lp : Lp}
theorem kcR_none (κn : Kt) (κx : Ex → Kt) : kcR κn κx none = none := (rfl)
theorem kcR_nrm (κn : Kt) (κx : Ex → Kt) (s : St) : kcR κn κx (some (.nrm, s)) = κn s := (rfl)
theorem kcR_exit (κn : Kt) (κx : Ex → Kt) (i : Nat) (s : St) : kcR κn κx (some (.exit i, s)) = κx (.exit i) s := (rfl)
theorem kcR_ret (κn : Kt) (κx : Ex → Kt) (s : St) : kcR κn κx (some (.ret, s)) = κx .ret s := (rfl)
theorem ops_kc (κn : Kt) (κx : Ex → Kt) (T : Tms) (fl : List (Nat × Nat)) : ∀ (l : List OK), (∀ o ∈ l, NatO' C o) → ∀ (σ : List AV) (h : AH),
    opsE C run T l (fun σ h => κn ⟨flushA σ T fl, h⟩) σ h = kcR κn κx (kNrm (opsA C run fl T l σ h))
  | [], _, σ, h => rfl
  | ⟨f⟩ :: r, hl, σ, h => by
    have hr := fun v h' => ops_kc κn κx T fl r (fun o ho => hl o (List.mem_cons_of_mem _ ho)) (v :: σ) h'
    show f C run σ T h (fun v => opsE C run T r (fun σ h => κn ⟨flushA σ T fl, h⟩) (v :: σ)) = kcR κn κx (kNrm (f C run σ T h fun v => opsA C run fl T r (v :: σ)))
    rcases hl _ (List.mem_cons_self ..) run σ T h with hn | ⟨v, h', hn⟩
    · rw [show f C run σ T h (fun v => opsE C run T r (fun σ h => κn ⟨flushA σ T fl, h⟩) (v :: σ)) = none from hn _, show f C run σ T h (fun v => opsA C run fl T r (v :: σ)) = none from hn _]; rfl
    · rw [show f C run σ T h (fun v => opsE C run T r (fun σ h => κn ⟨flushA σ T fl, h⟩) (v :: σ)) = opsE C run T r (fun σ h => κn ⟨flushA σ T fl, h⟩) (v :: σ) h' from hn _, show f C run σ T h (fun v => opsA C run fl T r (v :: σ)) = opsA C run fl T r (v :: σ) h' from hn _]
      exact hr v h'
/-- A code in continuation form does what it does. -/
theorem kc_eq : ∀ (k : K), NatK C k → ∀ (s : St) (κn : Kt) (κx : Ex → Kt), kc C run lp k s κn κx = kcR κn κx (kx C run lp k s)
  | .skip, _, s, κn, κx => rfl
  | .reg l fl, hk, s, κn, κx => ops_kc κn κx s.t fl l hk [] s.h
  | .draw _ _ _, _, s, κn, κx => rfl
  | .draw2 _ _ _ _ _ _, _, s, κn, κx => rfl
  | .seq a b, hk, s, κn, κx => by
    show kc C run lp a s (fun s => kc C run lp b s κn κx) κx = kcR κn κx (obind (kx C run lp a s) (kThen (kx C run lp b)))
    rw [kc_eq a hk.1]
    rcases kx C run lp a s with _ | ⟨e, s'⟩
    · rfl
    · cases e with
      | nrm => exact kc_eq b hk.2 s' κn κx
      | exit i => rfl
      | ret => rfl
  | .cond c a b, hk, s, κn, κx => by
    show kcIf (ev C [] s.t c) (kc C run lp a s κn κx) (kc C run lp b s κn κx) = kcR κn κx (kIf (ev C [] s.t c) (kx C run lp a) (kx C run lp b) s)
    rw [kc_eq a hk.1, kc_eq b hk.2]
    cases ev C [] s.t c <;> try rfl
    rename_i q
    cases q <;> rfl
  | .block id b, hk, s, κn, κx => by
    show kc C run lp b s κn (kcO id κn κx) = kcR κn κx (obind (kx C run lp b s) (kOut id))
    rw [kc_eq b hk]
    rcases kx C run lp b s with _ | ⟨e, s'⟩
    · rfl
    · cases e with
      | nrm => rfl
      | exit i =>
        show bq (Nat.beq i id) (κn s') (κx (.exit i) s') = kcR κn κx (bq (Nat.beq i id) (some (.nrm, s')) (some (.exit i, s')))
        cases Nat.beq i id <;> rfl
      | ret => rfl
  | .loop b, _, s, κn, κx => rfl
  | .rf _ _ _ _, _, s, κn, κx => rfl
  | .rm _ _ _ _ _ _ _ _ _ _, _, s, κn, κx => rfl
  | .ex e, _, s, κn, κx => by cases e <;> rfl
  | .no, _, s, κn, κx => rfl
theorem kc_seq (a b : K) (s : St) (κn : Kt) (κx : Ex → Kt) : kc C run lp (.seq a b) s κn κx = kc C run lp a s (fun s => kc C run lp b s κn κx) κx := (rfl)
/-- A round of a loop. -/
theorem loop_kc (n : Nat) {b : K} (hb : NatK C b) (s : St) (κn : Kt) (κx : Ex → Kt) :
    kcR κn κx ((rl C (n + 1)).lp b s) = kc C (rl C n).run (rl C n).lp b s (fun s => kcR κn κx ((rl C n).lp b s)) κx := by
  rw [rl_lp, kc_eq b hb]
  rcases kx C (rl C n).run (rl C n).lp b s with _ | ⟨e, s'⟩
  · rfl
  · cases e <;> rfl
end
noncomputable section
/-- A function's end. -/
def kcE (C : Cx) (rs : List ResultVar) : Kt := fun s => obind (resA C s.h s.t rs) fun l => some (.vh (tupA l) s.h)
def kcQ (C : Cx) (rs : List ResultVar) (e : Ex) : Kt := fun s => Ex.rec (motive := fun _ => Option Rs) (kcE C rs s) (fun _ => none) (kcE C rs s) e
/-- The same: results one by one. -/
def kcEs (C : Cx) (s : St) (rs : List ResultVar) : (List AV → Option Rs) → Option Rs :=
  List.rec (motive := fun _ => (List AV → Option Rs) → Option Rs) (fun κ => κ []) (fun r _ ih κ => ResultVar.rec (motive := fun _ => Option Rs) (fun i => ih fun l => κ (tget s.t i :: l))
    (fun a ty => obind (C.ty ty) fun ti => bq ti.agg (loadG ti.size (tget s.t a) s.h fun v _ => ih fun l => κ (v :: l)) (load1 (tget s.t a) s.h fun v _ => ih fun l => κ (v :: l))) r) rs
end
section
variable {C : Cx} {run : Run} {lp : Lp}
theorem res_kc (s : St) : ∀ (rs : List ResultVar) (κ : List AV → Option Rs), obind (resA C s.h s.t rs) κ = kcEs C s rs κ
  | [], κ => rfl
  | .tmp i :: r, κ => by
    show obind (match resA C s.h s.t r with | some l => some (tget s.t i :: l) | none => none) κ = kcEs C s r fun l => κ (tget s.t i :: l)
    rw [← res_kc s r]
    cases resA C s.h s.t r <;> rfl
  | .cell a ty :: r, κ => by
    show obind (match vhO (cellK C ty (tget s.t a) s.h), resA C s.h s.t r with | some x, some l => some (x.1 :: l) | _, _ => none) κ = obind (C.ty ty) fun ti => bq ti.agg (loadG ti.size (tget s.t a) s.h fun v _ => kcEs C s r fun l => κ (v :: l)) (load1 (tget s.t a) s.h fun v _ => kcEs C s r fun l => κ (v :: l))
    have ih := fun v => res_kc s r fun l => κ (v :: l)
    unfold cellK
    cases C.ty ty with
    | none => rfl
    | some ti =>
      show obind (match vhO (bq ti.agg (loadG ti.size (tget s.t a) s.h kVH) (load1 (tget s.t a) s.h kVH)), resA C s.h s.t r with | some x, some l => some (x.1 :: l) | _, _ => none) κ = bq ti.agg (loadG ti.size (tget s.t a) s.h fun v _ => kcEs C s r fun l => κ (v :: l)) (load1 (tget s.t a) s.h fun v _ => kcEs C s r fun l => κ (v :: l))
      have fin : ∀ F : Ka → Option Rs, NatF F → obind (match vhO (F kVH), resA C s.h s.t r with | some x, some l => some (x.1 :: l) | _, _ => none) κ = F fun v _ => kcEs C s r fun l => κ (v :: l) := by
        intro F hF
        rcases hF with hF | ⟨v, h', hF⟩
        · rw [hF, hF]; rfl
        · rw [hF, hF, ← ih v]
          cases resA C s.h s.t r <;> rfl
      cases ti.agg with
      | true => exact fin _ (n_loadG _)
      | false => exact fin _ n_load1
theorem kcE_eq (C : Cx) (rs : List ResultVar) (s : St) : kcE C rs s = kcEs C s rs fun l => some (.vh (tupA l) s.h) := res_kc s rs _
theorem end_kc (rs : List ResultVar) (x : Option (Ex × St)) : obind x (endA C rs) = vhO (kcR (kcE C rs) (kcQ C rs) x) := by
  have he : ∀ s : St, (match resA C s.h s.t rs with | some l => some (tupA l, s.h) | none => none) = vhO (kcE C rs s) := by
    intro s
    unfold kcE
    cases resA C s.h s.t rs <;> rfl
  rcases x with _ | ⟨e, s⟩
  · rfl
  · cases e with
    | nrm => exact he s
    | exit i => rfl
    | ret => exact he s
theorem run_kc {f : Nat} {F : FK} {args : List AV} {h : AH} (ho : C.orc f = none) (hf : fkAt C f = some F) (hl : Nat.ble (flen args) F.n = true) :
    runF C run lp f args h = vhO (kc C run lp F.k ⟨tinit args F.ps, h⟩ (kcE C F.rs) (kcQ C F.rs)) := by
  have hn : NatK C F.k := by
    have := kOf_nat C f
    unfold kOf at this
    rw [hf] at this
    exact this
  unfold runF
  rw [ho]
  unfold runB
  rw [hf]
  show bodyA C run lp args h F.k F.ps F.n F.rs = _
  unfold bodyA
  rw [hl, bq_true, end_kc, kc_eq _ hn]
end
attribute [irreducible] NatK kOf kAt kc
end Go.Proofs.YtdkioifmieamoaaGreatDoor
namespace Go.Proofs.YtdkioifmieamoaaGreatDoor
set_option linter.unusedSimpArgs false
set_option linter.unusedVariables false
set_option linter.unnecessarySimpa false
set_option linter.defProp false
/-- It ends with a value and memory of which this holds. -/
def Ends (P : AV → AH → Prop) (x : Option Rs) : Prop := ∃ r h, x = some (.vh r h) ∧ P r h
/-- A call, likewise. -/
def Gives (P : AV → AH → Prop) (x : Option (AV × AH)) : Prop := ∃ r h, x = some (r, h) ∧ P r h
section
variable {C : Cx} {run : Run} {lp : Lp} {Q : Option Rs → Prop} {A B : Option Rs} {κ : Ka} {h : AH} {P R : AV → AH → Prop}
theorem Ends.mk {r : AV} {h : AH} (p : P r h) : Ends P (some (.vh r h)) := ⟨r, h, rfl, p⟩
theorem Gives.mono {x : Option (AV × AH)} (g : Gives P x) (i : ∀ r h, P r h → R r h) : Gives R x := by
  obtain ⟨r, h, e, p⟩ := g
  exact ⟨r, h, e, i r h p⟩
theorem Gives.of {x y : Option (AV × AH)} (e : x = y) (g : Gives P y) : Gives P x := by rw [e]; exact g
theorem Ends.gives {x : Option Rs} (e : Ends P x) : Gives P (vhO x) := by
  obtain ⟨r, h, rfl, p⟩ := e
  exact ⟨r, h, rfl, p⟩
theorem wIf {p : Prop} [Decidable p] (a : p → Q A) (b : ¬p → Q B) : Q (kcIf (.bool (decide p)) A B) := by
  by_cases e : p
  · rw [decide_eq_true e]; exact a e
  · rw [decide_eq_false e]; exact b e
theorem wIfb {c : Bool} (a : c = true → Q A) (b : c = false → Q B) : Q (kcIf (.bool c) A B) := by
  cases c with
  | true => exact a rfl
  | false => exact b rfl
theorem kcIf_t : kcIf (.bool true) A B = A := (rfl)
theorem kcIf_f : kcIf (.bool false) A B = B := (rfl)
theorem kcO_n (id : Nat) (κn : Kt) (κx : Ex → Kt) (s : St) : kcO id κn κx .nrm s = κn s := (rfl)
theorem kcO_r (id : Nat) (κn : Kt) (κx : Ex → Kt) (s : St) : kcO id κn κx .ret s = κx .ret s := (rfl)
theorem kcO_e (id i : Nat) (κn : Kt) (κx : Ex → Kt) (s : St) : kcO id κn κx (.exit i) s = bq (decide (i = id)) (κn s) (κx (.exit i) s) := by rw [← nbeq]; rfl
theorem kcQ_r (rs : List ResultVar) (s : St) : kcQ C rs .ret s = kcE C rs s := (rfl)
/-- A call whose contract is known. -/
theorem wCall {x : Option (AV × AH)} (g : Gives P x) (k : ∀ r h', P r h' → Q (κ r h')) : Q (withX κ x) := by
  obtain ⟨r, h', rfl, p⟩ := g
  exact k r h' p
theorem wEq (e : A = B) (q : Q B) : Q A := by rw [e]; exact q
/-- A call in the caller's memory. -/
theorem Gives.call {f : Nat} {args : List AV} (g : Gives P (run f args h)) (hx : C.ext f = none := by kernel_rfl) (ho : C.own f = true := by kernel_rfl) (ht : C.tr f = false := by kernel_rfl) : Gives P (callA C run f args h) := by
  obtain ⟨r, h', e, p⟩ := g
  exact ⟨r, h', callA_in hx ho ht e, p⟩
/-- A run of a function whose code is known. -/
theorem Gives.runs {n f : Nat} {args : List AV} {x : Option Rs} (e : runF C (rl C n).run (rl C n).lp f args h = vhO x) (p : Ends P x) : Gives P ((rl C (n + 1)).run f args h) := by
  rw [rl_run, e]; exact p.gives
/-- A loop, when it is begun or gone on with. -/
theorem wLoop {n : Nat} {b : K} {s : St} {κn : Kt} {κx : Ex → Kt} (hb : NatK C b) (q : Q (kc C (rl C n).run (rl C n).lp b s (fun s => kcR κn κx ((rl C n).lp b s)) κx)) : Q (kcR κn κx ((rl C (n + 1)).lp b s)) := by
  rw [loop_kc n hb]; exact q
/-- A region that draws, whose run is known. -/
theorem wDraw {k : K} {s : St} {κn : Kt} {κx : Ex → Kt} {r : Ex × St} (hk : NatK C k) (e : kx C run lp k s = some r) (q : Q (kcR κn κx (some r))) : Q (kc C run lp k s κn κx) := by
  rw [kc_eq k hk, e]; exact q
theorem fuel {n k : Nat} (h : k ≤ n) : ∃ m, n = m + k := ⟨n - k, by omega⟩
end
section
variable {h : AH} {κ : Ka}
theorem slT_lu (s : List Nat) (k k' l u : Nat) : slT (.str s) (some (.int k (l : Int))) (some (.int k' (u : Int))) h κ = bq (decide (l ≤ u) && decide (u ≤ s.length)) (κ (.str ((s.drop l).take (u - l))) h) none := by
  show bq (and (Nat.ble l u) (Nat.ble u (flen s))) (κ (.str (ftake (Nat.sub u l) (fdrop l s))) h) none = _
  rw [nble, nble, flen_eq, ftake_eq, fdrop_eq]; rfl
/-- A row that is no block: its value is the row itself. -/
def PureS (v : AV) (cs : List AV) : Prop := (cs = [] ∧ (v = .nils ∨ v = .sle)) ∨ v = .slp cs cs.length
theorem PureS.at {v : AV} {cs : List AV} (p : PureS v cs) (h : AH) : SlAt h v cs := by
  rcases p with ⟨rfl, p⟩ | rfl
  · exact .inl ⟨rfl, p⟩
  · exact .inr (.inl ⟨cs, rfl, by simp⟩)
theorem PureS.lt {v : AV} {cs : List AV} (p : PureS v cs) (k : Nat) : v.lt k = true := by
  rcases p with ⟨_, rfl | rfl⟩ | rfl <;> rfl
theorem PureS.len {v : AV} {cs : List AV} (p : PureS v cs) (h : AH) (κ : Ka) : lenS v h κ = κ (.int 9223372036854775807 (cs.length : Int)) h := (p.at h).lenS h κ
/-- A part of a row. -/
theorem PureS.cut {v : AV} {cs : List AV} (p : PureS v cs) (hne : cs ≠ []) {l u : Nat} (h1 : l ≤ u) (h2 : u ≤ cs.length) (k k' : Nat) (h : AH) (κ : Ka) :
    slS 1 v (some (.int k (l : Int))) (some (.int k' (u : Int))) none h κ = κ (.slp ((cs.drop l).take (u - l)) (u - l)) h := by
  rcases p with ⟨rfl, _⟩ | rfl
  · exact absurd rfl hne
  · show bq (and (and (Nat.ble l u) (Nat.ble u cs.length)) (and (Nat.ble cs.length cs.length) (or (not false) true))) (bq (Nat.beq (flen cs) (Nat.mul cs.length 1)) (bq (and false (Nat.beq l cs.length)) (κ .sle h) (κ (.slp (ftake (Nat.mul (Nat.sub u l) 1) (fdrop (Nat.mul l 1) cs)) (Nat.sub u l)) h)) none) none = _
    rw [nble, nble, nble, flen_eq, decide_eq_true h1, decide_eq_true h2, decide_eq_true (Nat.le_refl _), nbeq, decide_eq_true (show cs.length = Nat.mul cs.length 1 from (Nat.mul_one _).symm), ftake_eq, fdrop_eq, show Nat.mul l 1 = l from Nat.mul_one _, show Nat.mul (Nat.sub u l) 1 = u - l from Nat.mul_one _]
    rfl
theorem PureS.tail {v : AV} {cs : List AV} (p : PureS v cs) (hne : cs ≠ []) {l : Nat} (h2 : l ≤ cs.length) (k : Nat) (h : AH) (κ : Ka) :
    slS 1 v (some (.int k (l : Int))) none none h κ = κ (.slp (cs.drop l) (cs.length - l)) h := by
  rcases p with ⟨rfl, _⟩ | rfl
  · exact absurd rfl hne
  · show bq (and (and (Nat.ble l cs.length) (Nat.ble cs.length cs.length)) (and (Nat.ble cs.length cs.length) (or (not false) false))) (bq (Nat.beq (flen cs) (Nat.mul cs.length 1)) (bq (and false (Nat.beq l cs.length)) (κ .sle h) (κ (.slp (ftake (Nat.mul (Nat.sub cs.length l) 1) (fdrop (Nat.mul l 1) cs)) (Nat.sub cs.length l)) h)) none) none = _
    rw [nble, nble, flen_eq, decide_eq_true h2, decide_eq_true (Nat.le_refl _), nbeq, decide_eq_true (show cs.length = Nat.mul cs.length 1 from (Nat.mul_one _).symm), ftake_eq, fdrop_eq, show Nat.mul l 1 = l from Nat.mul_one _, show Nat.mul (Nat.sub cs.length l) 1 = cs.length - l from Nat.mul_one _, List.take_of_length_le (by simp)]
    rfl
theorem PureS.mk (cs : List AV) {n : Nat} (h : n = cs.length) : PureS (.slp cs n) cs := .inr (by rw [h])
end
section
variable {h : AH} {κ : Ka} {Q : Option Rs → Prop}
/-- A row that may be lengthened, lengthened. -/
theorem wApp (ty : Nat) {by_ : Nat} (hby : by_ ≤ 1000) {m : Nat} {v x : AV} {cs ds : List AV} (hm : m ≤ h.length) (r : SlFull m h v cs) (hx : SlAt h x ds) (hp : plains ds = true) (hl : cs.length + ds.length ≤ 1000000)
    (k : ∀ v' h', SlFull m h' v' (cs ++ ds) → Fr m h h' → Q (κ v' h')) : Q (appA ty 1 by_ v x h κ) := by
  obtain ⟨v', h', e, a, b⟩ := app_full ty hby hm r hx hp hl
  rw [e]; exact k v' h' a b
/-- A row of one. -/
theorem bldS_c {z c : AV} (hn : c.nb = true) (hc : c.cells = [c]) : bldS 1 1 [z] [(0, c)] h κ = κ (.slo h.length 0 1 1 1 true) (h ++ [some (.cells [c] 0)]) := by
  have e : bldS 1 1 [z] [(0, c)] h κ = bq true (obind (bq (and c.nb (and (Nat.beq (flen c.cells) 1) (Nat.ble (Nat.add 0 1) 1))) (some (setR [z] 0 c.cells)) none) fun cs => κ (.slo (flen h) 0 1 1 1 true) (fapp h [some (.cells cs 0)])) none := by kernel_rfl
  have e2 : setR [z] 0 [c] = [c] := by kernel_rfl
  rw [e, hn, hc, e2]
  show κ (.slo (flen h) 0 1 1 1 true) (fapp h [some (.cells [c] 0)]) = _
  rw [flen_eq, fapp_eq]
theorem bldS_str (z : AV) (s : List Nat) : bldS 1 1 [z] [(0, .str s)] h κ = κ (.slo h.length 0 1 1 1 true) (h ++ [some (.cells [.str s] 0)]) := bldS_c rfl rfl
theorem SlFull.new {m : Nat} (hm : m ≤ h.length) (c : AV) (y : Nat) (e : Bool) : SlFull m (h ++ [some (.cells [c] y)]) (.slo h.length 0 1 1 1 e) [c] := .inr ⟨h.length, y, e, hm, rfl, hget_top _ _⟩
theorem SlFull.nil {m : Nat} : SlFull m h .nils [] := .inl ⟨rfl, rfl⟩
theorem SlFull.push {m : Nat} {v : AV} {cs : List AV} (r : SlFull m h v cs) (x : AH) : SlFull m (h ++ x) v cs := r.up fun i _ hi => hget_old hi x
end
/-- Bytes, texts, numbers as cells. -/
def bytesA (l : List Nat) : List AV := l.map fun b : Nat => AV.int 255 (b : Int)
def strsA (l : List (List Nat)) : List AV := l.map AV.str
def numsA (l : List Nat) : List AV := l.map fun b : Nat => AV.int 18446744073709551615 (b : Int)
theorem bytesA_len (l : List Nat) : (bytesA l).length = l.length := by simp [bytesA]
theorem strsA_len (l : List (List Nat)) : (strsA l).length = l.length := by simp [strsA]
theorem numsA_len (l : List Nat) : (numsA l).length = l.length := by simp [numsA]
theorem bytesA_app (a b : List Nat) : bytesA (a ++ b) = bytesA a ++ bytesA b := by simp [bytesA]
theorem strsA_app (a b : List (List Nat)) : strsA (a ++ b) = strsA a ++ strsA b := by simp [strsA]
theorem bytesA_plains : ∀ l : List Nat, plains (bytesA l) = true
  | [] => rfl
  | a :: r => by show and true (plains (bytesA r)) = true; rw [bytesA_plains r]; rfl
theorem strsA_plains : ∀ l : List (List Nat), plains (strsA l) = true
  | [] => rfl
  | a :: r => by show and true (plains (strsA r)) = true; rw [strsA_plains r]; rfl
theorem bytesA_get {l : List Nat} {i b : Nat} (h : l[i]? = some b) : (bytesA l)[i]? = some (.int 255 (b : Int)) := by unfold bytesA; rw [List.getElem?_map, h]; rfl
theorem strsA_get {l : List (List Nat)} {i : Nat} {b : List Nat} (h : l[i]? = some b) : (strsA l)[i]? = some (.str b) := by unfold strsA; rw [List.getElem?_map, h]; rfl
theorem bytesA_drop (n : Nat) (l : List Nat) : (bytesA l).drop n = bytesA (l.drop n) := by unfold bytesA; rw [List.map_drop]
theorem bytesA_take (n : Nat) (l : List Nat) : (bytesA l).take n = bytesA (l.take n) := by unfold bytesA; rw [List.map_take]
/-- Bytes as a text. -/
theorem bytesOf_A : ∀ {l : List Nat}, (∀ b ∈ l, b < 256) → bytesOf (bytesA l) = some l
  | [], _ => rfl
  | a :: r, h => by
    have ih := bytesOf_A (l := r) fun b hb => h b (List.mem_cons_of_mem _ hb)
    have ha : a < 256 := h a (List.mem_cons_self ..)
    unfold bytesOf at *
    rw [fmap_eq] at *
    show optL (byteOfA (.int 255 (Int.ofNat a)) :: (bytesA r).map byteOfA) = _
    have : byteOfA (.int 255 (Int.ofNat a)) = some a := by
      show bq (and (Nat.beq 255 255) (Nat.blt a 256)) (some a) none = _
      rw [nblt, decide_eq_true ha]; rfl
    rw [this]
    unfold optL
    rw [ih]
theorem str_of {h : AH} {v : AV} {l : List Nat} (s : SlAt h v (bytesA l)) (hl : ∀ b ∈ l, b < 256) (κ : Ka) : bytesStr v h κ = κ (.str l) h := by
  have e := s.elems
  unfold bytesStr
  rw [s.lenA, obind_some, e, obind_some, bytesOf_A hl, obind_some]
  rcases s with ⟨_, rfl | rfl⟩ | ⟨row, rfl, _⟩ | ⟨b, o, n, row, y, e, rfl, _⟩ <;> rfl
/-- Rules of symbolic runs, in some bundles. -/
def sy0 := And.intro @guardC_b <| And.intro @guardC_u <| And.intro @beqB_tt <| And.intro @beqB_tf <| And.intro @beqB_ft <| And.intro @beqB_ff <| And.intro @min_eq <| And.intro @max_eq <| And.intro @vhO_kVH <| And.intro @ckN_eq <| And.intro @ckE_eq <| And.intro @ckX_same <| And.intro @bldS_int2 <| And.intro @lt_agg <| And.intro @lt_tup <| And.intro @lt_int <| And.intro @lt_bool <| And.intro @lt_str <| And.intro @lt_nils <| And.intro @lt_sle <| And.intro @lt_nil <| And.intro @lt_slp <| And.intro @lt_ptp <| And.intro @obindS <| And.intro @obindN <| And.intro @bqT <| And.intro @bqF <| And.intro @moveA_eq <| And.intro @pickA_eq <| @boxA_eq
def sy1 := And.intro @newA_eq <| And.intro @cmp_eq <| And.intro @arith_eq <| And.intro @remA_eq <| And.intro @quoA_eq <| And.intro @notA_eq <| And.intro @negA_eq <| And.intro @cvI_eq <| And.intro @moveP_o <| And.intro @moveP_p <| And.intro @blkC_cells <| And.intro @load1_o <| And.intro @load1_p <| And.intro @loadG_o <| And.intro @loadG_p <| And.intro @store1_o <| And.intro @storeG_o <| And.intro @lenS_nils <| And.intro @lenS_sle <| And.intro @lenS_p <| And.intro @lenS_o <| And.intro @lenT_eq <| And.intro @idxS_p <| And.intro @idxS_o <| And.intro @idxT_eq <| And.intro @idxA_o <| And.intro @idxV1_eq <| And.intro @fld1_eq <| And.intro @fldG_eq <| @extA_eq
def sy2 := And.intro @nilCk_o <| And.intro @nilCk_p <| And.intro @strAdd_eq <| And.intro @strCmp_eq <| And.intro @withX_some <| And.intro @withX_none <| And.intro @iaddE <| And.intro @isubE <| And.intro @imulE <| And.intro @iltE <| And.intro @igtE <| And.intro @ileE <| And.intro @igeE <| And.intro @ineE <| And.intro @ibeqE <| And.intro @hget_top <| And.intro @hget_zero <| And.intro @hget_succ <| And.intro @set_top <| And.intro @plains_nil <| And.intro @plains_cons <| And.intro @plain_int <| And.intro @plain_bool <| And.intro @plain_str <| And.intro @plain_nils <| And.intro @plain_slp <| And.intro @plain_sle <| And.intro @plain_nil <| And.intro @plain_pto <| @plain_ptp
def sy3 := And.intro @plain_slo <| And.intro @nb_agg <| And.intro @nb_int <| And.intro @nb_bool <| And.intro @nb_str <| And.intro @nb_slp <| And.intro @nb_nils <| And.intro @nb_sle <| And.intro @nb_slo <| And.intro @cells_agg <| And.intro @cells_int <| And.intro @cells_bool <| And.intro @cells_str <| And.intro @kcR_none <| And.intro @kcR_nrm <| And.intro @kcR_exit <| And.intro @kcR_ret <| And.intro @kcO_n <| And.intro @kcO_r <| And.intro @kcO_e <| And.intro @kcQ_r <| And.intro @kcIf_t <| @kcIf_f
def syL := And.intro @List.length_set.{0} <| And.intro @Nat.le_add_right <| And.intro @List.length_cons.{0} <| And.intro @List.length_nil.{0} <| And.intro @List.take_succ_cons.{0} <| And.intro @List.take_zero.{0} <| And.intro @List.drop_succ_cons.{0} <| And.intro @List.drop_zero.{0} <| And.intro @List.cons_append.{0} <| And.intro @List.nil_append.{0} <| And.intro @List.append_nil.{0} <| And.intro @List.drop_nil.{0} <| And.intro @List.take_nil.{0} <| And.intro @List.getElem?_cons_zero.{0} <| And.intro @List.getElem?_cons_succ.{0} <| And.intro @List.set_cons_zero.{0} <| And.intro @List.set_cons_succ.{0} <| And.intro @Nat.zero_add <| And.intro @Nat.add_zero <| And.intro @decide_true <| And.intro @decide_false <| And.intro @Bool.and_true <| And.intro @Bool.true_and <| And.intro @Bool.and_false <| And.intro @Bool.false_and <| And.intro @Bool.not_true <| And.intro @Bool.not_false <| @Nat.le_refl
def sy := And.intro @sy0 <| And.intro @sy1 <| And.intro @sy2 <| And.intro @sy3 <| @syL
end Go.Proofs.YtdkioifmieamoaaGreatDoor
