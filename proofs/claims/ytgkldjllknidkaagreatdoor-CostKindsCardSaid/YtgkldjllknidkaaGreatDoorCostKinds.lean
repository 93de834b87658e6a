/- The statement CostKindsCardSaid: every call of guipurelaw25.CostKinds returns true, whatever its arguments, and leaves all that was there as it was; the listed package-level variables read as the program's own text lays them (the tie is given). No condition is added. The run is proved in Kd; this is the frame of the row and its card. -/
import Derived.Test.YtgkldjllknidkaaGreatDoorTie
import Derived.Test.YtgkldjllknidkaaGreatDoorCards
import Derived.Test.YtgkldjllknidkaaGreatDoorKd
import Derived.Test.YtgkldjllknidkaaGreatDoorMF
import Derived.WalkKit
import Derived.ProofKit
import Derived.OpenShut
import Derived.ShutString
import Derived.ChangeOld
import Derived.Below
import Derived.LaidMore
import Derived.Lay
import Derived.SevenTiedAt
import Derived.Stop.Joined
namespace Go.Proofs.YtgkldjllknidkaaGreatDoor.costKinds
open Go.ChangeShapes Go.WideShapes Go.ChangeAt Go.RowKit
set_option linter.unusedVariables false
set_option linter.unusedSimpArgs false
set_option linter.unnecessarySimpa false
theorem own : ownKnob Tryz.prog.godebug = none := by kernel_rfl
theorem laidOut : laidOutB Tryz.prog = true := by kernel_rfl
theorem closed : closedB Tryz.prog [30, 28, 3, 36, 4, 22, 33, 34, 243, 5] = true := by kernel_rfl

/-- What lies there, as the run wants it. -/
theorem laid_inv {W : World} (h : laidMetH Tryz.prog Rows.costKindsRow.laid W) (hs : W.ShapedOpen Tryz.prog) : ∃ mx, Inv (C0 mx) (· < W.heap.size) W ρ0 [] := by
  obtain ⟨mx, hm⟩ := maxLen_some hs
  rw [MakeChecks.laidMetH_plain _ _ _ (by kernel_rfl)] at h
  obtain ⟨ps, hL, _, _⟩ := h
  obtain ⟨g0, t0, cs0, f0, p0, q0, hg0, ht0, hv0, hd0, hL, _⟩ := hL
  obtain ⟨g1, t1, cs1, f1, p1, q1, hg1, ht1, hv1, hd1, hL, _⟩ := hL
  obtain ⟨g2, t2, cs2, f2, p2, q2, hg2, ht2, hv2, hd2, hL, _⟩ := hL
  obtain ⟨g3, t3, cs3, f3, p3, q3, hg3, ht3, hv3, hd3, hL, _⟩ := hL
  obtain ⟨g4, t4, cs4, f4, p4, q4, hg4, ht4, hv4, hd4, hL, _⟩ := hL
  obtain ⟨g5, t5, cs5, f5, p5, q5, hg5, ht5, hv5, hd5, hL, _⟩ := hL
  obtain rfl := Option.some.inj ((show Tryz.prog.globalNamed "strings.asciiSpace" = some 0 by kernel_rfl).symm.trans hg5)
  obtain rfl := Option.some.inj ((show (Tryz.prog.globals[0]?).map (·.type) = some 34 by kernel_rfl).symm.trans ht5)
  exact ⟨mx, inv0 (asc_inv hv5 hd5) hm⟩
set_option maxRecDepth 100000 in
theorem lifted (os : Os) (started : os.Started) (H : Type) (enc : TypeId × Value → H) :
    ReturnsInHanded {} Tryz.checked os 4 .any (fun w args => (Rows.costKindsSpec.pre enc Tryz.prog Tryz.f4 Rows.costKindsRow.domain false w args ∧ laidMetH Tryz.prog Rows.costKindsRow.laid w) ∧ sizedMet enc Tryz.prog Tryz.f4 (OpenSpec.ofChange Rows.costKindsSpec) false w args)
      (Rows.costKindsSpec.post enc Tryz.prog Tryz.f4 false true false false) := by
  refine returns_laid (C := Tryz.checked) (X := fun w _ => laidMetH Tryz.prog Rows.costKindsRow.laid w) (fun _ _ _ hh h => h.of_heap hh) own started (by kernel_rfl) Tryz.func4
    (ChangeSpec.witness_shaped (enc := enc) (C := Tryz.checked) (os := os) (X := fun w _ => laidMetH Tryz.prog Rows.costKindsRow.laid w) false (World.laidAll Tryz.prog os Rows.costKindsRow.laid) #[.agg #[.slice none 0 0, .int .i64 0, .int .i64 0, .int .i64 0]] 8 (World.laidAll_os _ _ _)
      (World.shaped_of_ZipB (by kernel_rfl) (by kernel_rfl)) (by kernel_rfl) (by kernel_rfl) (by kernel_rfl)
      (by rw [MakeChecks.laidMetH_plain _ _ _ (by kernel_rfl)]; exact laidMet_laidAll _ (by kernel_rfl) (by kernel_rfl))) ?_
  intro W base args ds gs before hval0 hW hL hS
  have hval : ∀ (j : Nat) t v, Tryz.f4.params[j]? = some t → args[j]? = some v → Value.okWide Tryz.prog W .any base t v := hval0
  have hW' := hW
  obtain ⟨p, q, hA0, hV, rfl, hfz, hnd⟩ := hW
  have hA : DataW.TrodAll enc Tryz.prog W 0 (fun _ => true) true Tryz.f4.params.toList args.toList ds p := hA0
  rw [Tryz.params4] at hA hval
  obtain ⟨v0, vs0, d0, ds0, p0, q0, hargs, rfl, rfl, h0, r0⟩ := trodAll_cons hA
  obtain ⟨rfl, rfl, rfl⟩ := trodAll_nil r0
  obtain rfl : args = #[v0] := by cases args; simp_all
  obtain ⟨rfl, rfl⟩ := trodVars_none hV
  obtain ⟨mx, I⟩ := laid_inv hL hS
  have lt0 : ∀ x ∈ p0, x.block < W.heap.size := by obtain ⟨m, hm⟩ := h0; exact DataW.trod_lt m _ _ _ hm
  obtain ⟨n0, a0, k0, ty0⟩ := av_arg laidOut closed (t := 30) (by decide) (hval 0 30 v0 rfl rfl) h0 lt0
  clear hA0 hval0
  have hvl : VL (· < W.heap.size) W [a0] ρ0 #[v0].toList := by
    simp only [VL]
    exact ⟨_, _, rfl, k0, rfl⟩
  refine (CostKinds_calls I hvl ty0).mono fun e W' ⟨he, bel⟩ => ?_
  subst he
  exact ⟨_, rfl, _, _, _, [], _, [], hW', trodAll_mk1 (shut_bool Tryz.underlying4 _), (trodAll_cons_mk (Below.trod laidOut (by kernel_rfl) (of_decide_eq_true (by kernel_rfl)) h0 bel lt0) trodAll_mk0), rfl, bel.frame _, fun h => by cases h⟩

theorem and2 {a b : Bool} (x : a = true) (y : b = true) : (a && b) = true := by rw [x, y]; rfl
theorem fMaps : mapsRowed Tryz.prog = true := by kernel_rfl
theorem fIn : (Rows.costKindsRow.inPlace == Tryz.prog.inPlace 4) = true := by kernel_rfl
theorem fUn : (Rows.costKindsRow.unfollowed == Tryz.prog.unfollowed 4) = true := by kernel_rfl
theorem fRec : (Rows.costKindsRow.recurses == Tryz.prog.recurses 4) = true := by kernel_rfl
theorem fNamed : (Rows.costKindsRow.named == Tryz.prog.varsNamed 4) = true := by kernel_rfl
theorem fKeys : (Rows.costKindsRow.plainKeys == Tryz.prog.plainKeys) = true := by kernel_rfl
theorem fHeard : Tryz.prog.stopsHeard = true := by kernel_rfl
theorem fEnter : Tryz.prog.mayEnter = true := by kernel_rfl
theorem fMain : Tryz.pinned.checked.prog.mainIs = some ((true, "69eba3fb0515604ec6f6a4c93fb3d856a38cf009430ed09a12dc83b1d85b0154").1, (true, "69eba3fb0515604ec6f6a4c93fb3d856a38cf009430ed09a12dc83b1d85b0154").2.toList) := by kernel_rfl
theorem fLooks : false = Tryz.prog.looks [] := by kernel_rfl
theorem fGoes : false = Rows.costKindsRow.goesBy Tryz.pinned.checked.prog := by kernel_rfl
theorem joined : joinedFacts Tryz.prog 4 Tryz.f4 Rows.costKindsSpec Rows.costKindsRow = true := by
  unfold joinedFacts
  repeat' with_reducible refine and2 ?_ ?_
  all_goals first | with_reducible exact laidOut | with_reducible exact fMaps | with_reducible exact fIn | with_reducible exact fUn | with_reducible exact fRec | with_reducible exact fNamed | with_reducible exact fKeys | with_reducible exact fHeard | with_reducible exact fEnter | kernel_rfl
theorem over : Rows.costKindsRow.holds Tryz.pinned (OpenSpec.ofChange Rows.costKindsSpec) :=
  OpenClaim.holds_of_wide 4 Tryz.f4 rfl rfl rfl rfl rfl rfl rfl ⟨rfl, rfl, rfl, rfl, rfl⟩ rfl rfl rfl rfl rfl (by kernel_rfl) Tryz.func4 joined
    (of_decide_eq_true (by kernel_rfl)) (by unfold Func.isWrapper; first | (rw [if_pos (by decide +kernel)]; kernel_rfl) | (rw [if_neg (by decide +kernel)]; exact ⟨rfl, rfl⟩))
    (fun os started H enc _ => lifted os started H enc)

theorem proved : Rows.CostKindsCardSaid :=
  Claim7.holds_tied_plain_at .later [] [.data, .data, .data, .data, .listed, .data, .pinned] true (true, "69eba3fb0515604ec6f6a4c93fb3d856a38cf009430ed09a12dc83b1d85b0154") false
    over (fun _ h => by cases h) (by kernel_rfl) (fun _ h => by cases h) costKinds_row_tie rfl ⟨rfl, rfl⟩ fMain rfl
    (fun f fn hf hfn => by
      obtain rfl : f = 4 := Option.some.inj ((show Tryz.prog.funcNamed "guipure/guipurelaw25.CostKinds" = some 4 by kernel_rfl).symm.trans hf) |>.symm
      obtain rfl : fn = Tryz.f4 := (Option.some.inj (Tryz.func4.symm.trans hfn)).symm
      exact ⟨fLooks, fun j t ht => by
        rw [Tryz.params4] at ht
        have hm : t ∈ [30] := by simpa using Array.mem_of_getElem? ht
        have hall : ([30].all fun u => !Tryz.prog.wantsStandIn u) = true := by kernel_rfl
        exact (show Tryz.prog.wantsStandIn t = false by simpa using List.all_eq_true.1 hall t hm)⟩)
    fGoes
#print axioms proved
end Go.Proofs.YtgkldjllknidkaaGreatDoor.costKinds
