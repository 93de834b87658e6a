/- A shelf's items, by their names: what puts and drops leave. -/
import Derived.Test.YtdkioifmieamoaaGreatDoorSp
namespace Go.Proofs.YtdkioifmieamoaaGreatDoor
set_option linter.unusedSimpArgs false
set_option linter.unusedVariables false
set_option linter.unnecessarySimpa false
set_option linter.defProp false
noncomputable section
def kiS : TI := ⟨.string, 1, 16, [.str []], false, true⟩
def eiS : TI := ⟨(.pointer 89), 1, 8, [.nil], false, false⟩
/-- Memory of a shelf with these names. -/
structure ShS (kd : Nat → Nat) (h : AH) (bs : Nat) (L : List (List Nat)) : Prop where
  kb : kd bs = 1
  ex : ∃ bm ov vs ys, hget h bs = some (.cells [.mpo bm, ov] ys) ∧ kd bm = 2 ∧ hget h bm = some (.map (strsA L) vs) ∧ vs.length = L.length ∧ (∀ v ∈ vs, ∃ b o, v = .pto b o) ∧ Ow1 h (fun b => kd b = 3) ov (strsA L)
  nd : L.Nodup
  few : L.length ≤ 64
def extL (kd : Nat → Nat) (n c : Nat) : Nat → Nat := fun i => if i < n then kd i else c
end
theorem extL_lt {kd : Nat → Nat} {n c i : Nat} (h : i < n) : extL kd n c i = kd i := if_pos h
theorem extL_ge {kd : Nat → Nat} {n c i : Nat} (h : n ≤ i) : extL kd n c i = c := if_neg (by omega)
section
variable {mx : Int} {kd : Nat → Nat} {h : AH} {bs : Nat} {L : List (List Nat)} {n : List Nat}
theorem find_strs (n : List Nat) : ∀ L : List (List Nat), (∃ i : Nat, findA (.str n) (strsA L) = some (some i) ∧ L[i]? = some n ∧ ∀ j : Nat, j < i → L[j]? ≠ some n) ∨ (findA (.str n) (strsA L) = some none ∧ n ∉ L)
  | [] => .inr ⟨rfl, by simp⟩
  | x :: L => by
    have e : findA (.str n) (strsA (x :: L)) = (match some (eqS n x) with | some true => some (some 0) | some false => (match findA (.str n) (strsA L) with | some (some i) => some (some (i + 1)) | x => x) | none => none) := rfl
    rw [e, eqS_dec]
    by_cases hx : n = x
    · rw [decide_eq_true hx]
      exact .inl ⟨0, rfl, by simp [hx], fun j hj => by omega⟩
    · rw [decide_eq_false hx]
      rcases find_strs n L with ⟨i, h1, h2, h3⟩ | ⟨h1, h2⟩
      · refine .inl ⟨i + 1, ?_, by simpa using h2, fun j hj => ?_⟩
        · show (match findA (.str n) (strsA L) with | some (some i) => some (some (i + 1)) | x => x) = _
          rw [h1]
        · cases j with
          | zero => simpa using fun c => hx c.symm
          | succ j => simpa using h3 j (by omega)
      · refine .inr ⟨?_, by simp [hx, h2]⟩
        show (match findA (.str n) (strsA L) with | some (some i) => some (some (i + 1)) | x => x) = _
        rw [h1]
theorem ShS.mono {kd' : Nat → Nat} {h' : AH} (R : ShS kd h bs L) (f : ∀ i, i < h.length → kd i ≠ 0 → kd i ≠ 4 → kd' i = kd i ∧ hget h' i = hget h i) : ShS kd' h' bs L := by
  obtain ⟨bm, ov, vs, ys, e1, e2, e3, e4, e5, e6⟩ := R.ex
  have f1 := f bs (hget_of_lt e1) (by rw [R.kb]; decide) (by rw [R.kb]; decide)
  have f2 := f bm (hget_of_lt e3) (by rw [e2]; decide) (by rw [e2]; decide)
  exact ⟨by rw [f1.1]; exact R.kb, ⟨bm, ov, vs, ys, by rw [f1.2]; exact e1, by rw [f2.1]; exact e2, by rw [f2.2]; exact e3, e4, e5, e6.mono fun b hb hs => by
    have := f b hb (by rw [hs]; decide) (by rw [hs]; decide)
    exact ⟨by rw [this.1]; exact hs, this.2⟩⟩, R.nd, R.few⟩
theorem ShS.grow {h' : AH} (R : ShS kd h bs L) (f : Fr h.length h h') : ShS (extL kd h.length 0) h' bs L := R.mono fun i hi _ _ => ⟨extL_lt hi, f.2 i hi⟩
/-- What is asked of a map with such names. -/
theorem look_str {bm : Nat} {vs : List AV} (e3 : hget h bm = some (.map (strsA L) vs)) (e4 : vs.length = L.length) (e5 : ∀ v ∈ vs, ∃ b o, v = .pto b o) (n : List Nat) :
    (n ∈ L → ∃ b o, ∀ κ : Ka, lookA kiS eiS false (.mpo bm) (.str n) h κ = κ (.pto b o) h) ∧ (n ∉ L → ∀ κ : Ka, lookA kiS eiS false (.mpo bm) (.str n) h κ = κ .nil h) := by
  have step : ∀ κ : Ka, lookA kiS eiS false (.mpo bm) (.str n) h κ = obind (findA (.str n) (strsA L)) fun i => withV κ h (lookV eiS vs false i) := by
    intro κ
    unfold lookA mapOf
    simp only [e3]
    rfl
  rcases find_strs n L with ⟨i, h1, h2, _⟩ | ⟨h1, h2⟩
  · refine ⟨fun _ => ?_, fun c => absurd (List.mem_of_getElem? h2) c⟩
    have hi : i < vs.length := by rw [e4]; exact (List.getElem?_eq_some_iff.1 h2).1
    obtain ⟨b, o, hv⟩ := e5 _ (List.getElem_mem hi)
    refine ⟨b, o, fun κ => ?_⟩
    rw [step, h1, obind_some]
    show withV κ h (obind (fget vs i) fun v => some (bq false (.tup [v, .bool true]) v)) = _
    rw [fget_eq, List.getElem?_eq_getElem hi, hv]; rfl
  · refine ⟨fun c => absurd c h2, fun _ κ => ?_⟩
    rw [step, h1]; rfl
theorem neq_pto (b o : Nat) (h : AH) (κ : Ka) : neqA eiS (.pto b o) .nil h κ = κ (.bool true) h := (rfl)
theorem neq_nil (h : AH) (κ : Ka) : neqA eiS .nil .nil h κ = κ (.bool false) h := (rfl)
theorem eql_pto (b o : Nat) (h : AH) (κ : Ka) : eqlA eiS (.pto b o) .nil h κ = κ (.bool false) h := (rfl)
theorem eql_nil (h : AH) (κ : Ka) : eqlA eiS .nil .nil h κ = κ (.bool true) h := (rfl)
theorem lenM_str {bm : Nat} {vs : List AV} (e3 : hget h bm = some (.map (strsA L) vs)) (κ : Ka) : lenM (.mpo bm) h κ = κ (.int 9223372036854775807 (L.length : Int)) h := by
  unfold lenM mapOf
  simp only [e3]
  show κ (.int 9223372036854775807 (.ofNat (flen (strsA L)))) h = _
  rw [flen_eq, strsA_len]; rfl
theorem set_str {bm : Nat} {vs : List AV} (e3 : hget h bm = some (.map (strsA L) vs)) (hn : n ∉ L) (v : AV) (κ : Ka) : mapSetA kiS (.mpo bm) (.str n) v h κ = κ (.tup []) (h.set bm (some (.map (strsA (L ++ [n])) (vs ++ [v])))) := by
  rcases find_strs n L with ⟨i, h1, h2, _⟩ | ⟨h1, h2⟩
  · exact absurd (List.mem_of_getElem? h2) hn
  · show obind (hget h bm) _ = _
    rw [e3, obind_some]
    show obind (findA (.str n) (strsA L)) (fun i => κ (.tup []) (setM (.str n) v h bm (strsA L) vs i)) = _
    rw [h1, obind_some]
    show κ (.tup []) (fset (some (.map (fapp (strsA L) [.str n]) (fapp vs [v]))) h bm) = _
    rw [fset_eq, fapp_eq, fapp_eq, strsA_app]; rfl
theorem erase_mid {α : Type} (A B : List α) (a : α) : (A ++ a :: B).eraseIdx A.length = A ++ B := by
  rw [List.eraseIdx_append_of_length_le (Nat.le_refl _), Nat.sub_self]; rfl
theorem del_str {bm : Nat} {vs : List AV} {A B : List (List Nat)} (e3 : hget h bm = some (.map (strsA (A ++ n :: B)) vs)) (hA : n ∉ A) (κ : Ka) : delA kiS (.mpo bm) (.str n) h κ = κ (.tup []) (h.set bm (some (.map (strsA (A ++ B)) (vs.eraseIdx A.length)))) := by
  rcases find_strs n (A ++ n :: B) with ⟨i, h1, h2, h3⟩ | ⟨h1, h2⟩
  · have hi : i = A.length := by
      rcases Nat.lt_trichotomy i A.length with c | c | c
      · rw [List.getElem?_append_left c] at h2
        exact absurd (List.mem_of_getElem? h2) hA
      · exact c
      · exact absurd (by simp) (h3 A.length c)
    subst hi
    show obind (hget h bm) _ = _
    rw [e3, obind_some]
    show obind (findA (.str n) (strsA (A ++ n :: B))) (fun i => κ (.tup []) (delM h bm (strsA (A ++ n :: B)) vs i)) = _
    rw [h1, obind_some]
    show κ (.tup []) (fset (some (.map (fers (strsA (A ++ n :: B)) A.length) (fers vs A.length))) h bm) = _
    rw [fset_eq, fers_eq, fers_eq]
    have : (strsA (A ++ n :: B)).eraseIdx A.length = strsA (A ++ B) := by
      rw [strsA_app, ← strsA_len A]
      show (strsA A ++ .str n :: strsA B).eraseIdx (strsA A).length = _
      rw [erase_mid, strsA_app]
    rw [this]
  · exact absurd (by simp) h2
/-- What puts leave: the names, and what else is there. -/
def putE (L : List (List Nat)) (n : List Nat) : Nat := if nameOk n = false then 5 else if n ∈ L then 4 else if L.length = 64 then 2 else 0
def putL (L : List (List Nat)) (n : List Nat) : List (List Nat) := if putE L n = 0 then L ++ [n] else L
def Nk (kd : Nat → Nat) (h : AH) (kd' : Nat → Nat) (h' : AH) : Prop := h.length ≤ h'.length ∧ ∀ i, i < h.length → kd i = 0 ∨ kd i = 4 → kd' i = kd i ∧ hget h' i = hget h i
theorem Nk.trans {kd1 kd2 kd3 : Nat → Nat} {h1 h2 h3 : AH} (a : Nk kd1 h1 kd2 h2) (b : Nk kd2 h2 kd3 h3) : Nk kd1 h1 kd3 h3 :=
  ⟨Nat.le_trans a.1 b.1, fun i hi hk => by
    have e1 := a.2 i hi hk
    have e2 := b.2 i (Nat.lt_of_lt_of_le hi a.1) (by rw [e1.1]; exact hk)
    exact ⟨e2.1.trans e1.1, e2.2.trans e1.2⟩⟩
theorem Nk.grow {h' : AH} (f : Fr h.length h h') : Nk kd h (extL kd h.length 0) h' := ⟨f.1, fun i hi _ => ⟨extL_lt hi, f.2 i hi⟩⟩
theorem put_gives (R : ShS kd h bs L) (hn : n.length ≤ 1000) (ib io : Nat) (f : Nat) (hf : n.length + 10 ≤ f) :
    Gives (fun r h' => r = .int 9223372036854775807 (putE L n : Int) ∧ ∃ kd', ShS kd' h' bs (putL L n) ∧ Nk kd h kd' h') ((rl (CL mx) f).run 20 [.pto bs 0, .str n, .pto ib io] h) := by
  obtain ⟨f, rfl⟩ := fuel hf
  refine Gives.runs (n := f + n.length + 9) (kPut_run mx _ _ _ _ _ _) ?_
  simp only [sy, List.length_append, Nat.reduceAdd, Nat.reduceMul, Nat.reduceSub, Nat.reduceLeDiff, Nat.reduceEqDiff, Nat.reduceLT, reduceIte, kPut_s]
  refine wCall (nam_gives (n := n) hn _ (by omega)).call ?_
  rintro r h1 ⟨rfl, fr⟩
  have R1 := R.grow fr
  have N1 : Nk kd h (extL kd h.length 0) h1 := Nk.grow fr
  cases hok : nameOk n with
  | false =>
    simp only [sy, List.length_append, Nat.reduceAdd, Nat.reduceMul, Nat.reduceSub, Nat.reduceLeDiff, Nat.reduceEqDiff, Nat.reduceLT, reduceIte, kPut_s]
    have e : putE L n = 5 := by unfold putE; rw [if_pos hok]
    exact Ends.mk ⟨by rw [e]; rfl, _, by unfold putL; rw [e]; exact R1, N1⟩
  | true =>
    obtain ⟨bm, ov, vs, ys, e1, e2, e3, e4, e5, e6⟩ := R1.ex
    have lk := look_str e3 e4 e5 n
    have kiE : (⟨.string, 1, 16, [.str []], false, true⟩ : TI) = kiS := rfl
    have eiE : (⟨(.pointer 89), 1, 8, [.nil], false, false⟩ : TI) = eiS := rfl
    by_cases hin : n ∈ L
    · obtain ⟨b, o, lk⟩ := lk.1 hin
      simp only [sy, List.length_append, Nat.reduceAdd, Nat.reduceMul, Nat.reduceSub, Nat.reduceLeDiff, Nat.reduceEqDiff, Nat.reduceLT, reduceIte, kPut_s, kiE, eiE, e1, lk, neq_pto]
      have e : putE L n = 4 := by unfold putE; rw [if_neg (by simp [hok]), if_pos hin]
      exact Ends.mk ⟨by rw [e]; rfl, _, by unfold putL; rw [e]; exact R1, N1⟩
    · have lk := lk.2 hin
      have lm := lenM_str e3
      by_cases h64 : L.length = 64
      · have g : decide ((L.length : Int) = 64) = true := by rw [decide_eq_true_iff]; omega
        simp only [sy, List.length_append, Nat.reduceAdd, Nat.reduceMul, Nat.reduceSub, Nat.reduceLeDiff, Nat.reduceEqDiff, Nat.reduceLT, reduceIte, kPut_s, kiE, eiE, e1, lk, neq_nil, lm, g]
        have e : putE L n = 2 := by unfold putE; rw [if_neg (by simp [hok]), if_neg hin, if_pos h64]
        exact Ends.mk ⟨by rw [e]; rfl, _, by unfold putL; rw [e]; exact R1, N1⟩
      · have g : decide ((L.length : Int) = 64) = false := by rw [decide_eq_false_iff_not]; omega
        have ms := set_str e3 hin (.pto ib io)
        have hm1 := hget_of_lt e3
        have hne : bm ≠ bs := fun c => by have := R1.kb; rw [← c, e2] at this; cases this
        have e1' : hget (h1.set bm (some (Blk.map (strsA (L ++ [n])) (vs ++ [AV.pto ib io])))) bs = some (Blk.cells [.mpo bm, ov] ys) := by rw [hget_set_ne hne]; exact e1
        -- the order, lengthened
        have o2 : Ow1 (h1.set bm (some (Blk.map (strsA (L ++ [n])) (vs ++ [AV.pto ib io]))) ++ [some (Blk.cells [AV.str n] 0)]) (fun b => extL kd h.length 0 b = 3) ov (strsA L) := e6.mono fun b hb hs => ⟨hs, by
          rw [hget_old (by rw [List.length_set]; exact hb), hget_set_ne]
          intro c; rw [← c, e2] at hs; cases hs⟩
        have hx : hget (h1.set bm (some (Blk.map (strsA (L ++ [n])) (vs ++ [AV.pto ib io]))) ++ [some (Blk.cells [AV.str n] 0)]) h1.length = some (Blk.cells [AV.str n] 0) := by
          have := hget_top (h1.set bm (some (Blk.map (strsA (L ++ [n])) (vs ++ [AV.pto ib io])))) (some (Blk.cells [AV.str n] 0))
          rw [List.length_set] at this; exact this
        obtain ⟨v', h4, a1, a2, a3, a4⟩ := o2.app (9 + 1) (by_ := 16) (by decide) (x := .slo h1.length 0 1 1 1 true) (c := .str n) (.inr (.inr ⟨_, 0, 1, [AV.str n], 0, true, rfl, hx, rfl, by simp⟩)) rfl (by rw [strsA_len]; have := R.few; omega)
        have hlen2 : (h1.set bm (some (Blk.map (strsA (L ++ [n])) (vs ++ [AV.pto ib io]))) ++ [some (Blk.cells [AV.str n] 0)]).length = h1.length + 1 := by simp
        have hbs1 := hget_of_lt e1
        have e1'' : hget h4 bs = some (Blk.cells [.mpo bm, ov] ys) := by
          rw [a4 bs (by rw [R1.kb]; decide) (by rw [hlen2]; omega), hget_old (by rw [List.length_set]; exact hbs1)]; exact e1'
        simp only [sy, List.length_append, Nat.reduceAdd, Nat.reduceMul, Nat.reduceSub, Nat.reduceLeDiff, Nat.reduceEqDiff, Nat.reduceLT, reduceIte, kPut_s, kiE, eiE, e1, lk, neq_nil, lm, g, ms, e1', bldS_str, a1, e1'', a2.plain]
        have e : putE L n = 0 := by unfold putE; rw [if_neg (by simp [hok]), if_neg hin, if_neg h64]
        rw [hlen2] at a2 a3 a4
        have hb4 : bs < h4.length := hget_of_lt e1''
        have hbm4 : hget h4 bm = some (Blk.map (strsA (L ++ [n])) (vs ++ [AV.pto ib io])) := by
          rw [a4 bm (by rw [e2]; decide) (by omega), hget_old (by rw [List.length_set]; exact hm1), hget_set_same hm1]
        let kd2 : Nat → Nat := fun i => if i < h1.length then extL kd h.length 0 i else if i = h1.length + 1 then 3 else 0
        have k2l : ∀ i, i < h1.length → kd2 i = extL kd h.length 0 i := fun i hi => if_pos hi
        refine Ends.mk ⟨by rw [e]; rfl, kd2, ⟨by rw [k2l bs hbs1]; exact R1.kb, ⟨bm, v', vs ++ [AV.pto ib io], ys, ?_, by rw [k2l bm hm1]; exact e2, ?_, ?_, ?_, ?_⟩, ?_, ?_⟩, ?_⟩
        · rw [hget_set_same hb4]
        · rw [hget_set_ne (Ne.symm hne), hbm4]; unfold putL; rw [e]; rfl
        · unfold putL; rw [e]; simp [e4]
        · intro v hv
          rcases List.mem_append.1 hv with hv | hv
          · exact e5 v hv
          · exact ⟨ib, io, by simpa using hv⟩
        · unfold putL; rw [e, if_pos rfl, strsA_app]
          refine a2.mono fun b hb hs => ⟨?_, ?_⟩
          · rcases hs with hs | hs
            · have : b < h1.length := by
                apply Nat.lt_of_not_le
                intro c
                rw [extL_ge (by have := fr.1; omega)] at hs; cases hs
              rw [k2l b this]; exact hs
            · subst hs
              show (if h1.length + 1 < h1.length then _ else if h1.length + 1 = h1.length + 1 then 3 else 0) = 3
              rw [if_neg (by omega), if_pos rfl]
          · rw [hget_set_ne]
            intro c
            rcases hs with hs | hs
            · rw [← c, R1.kb] at hs; cases hs
            · omega
        · unfold putL; rw [e, if_pos rfl]
          exact List.nodup_append.2 ⟨R.nd, by simp, fun a ha b hb c => hin (by
            have : b = n := by simpa using hb
            rw [← this, ← c]; exact ha)⟩
        · unfold putL; rw [e, if_pos rfl]; have := R.few; simp; omega
        · refine N1.trans ⟨by rw [List.length_set]; omega, fun i hi hk => ⟨k2l i hi, ?_⟩⟩
          have i1 : bs ≠ i := fun c => by rw [← c, R1.kb] at hk; rcases hk with hk | hk <;> cases hk
          have i2 : bm ≠ i := fun c => by rw [← c, e2] at hk; rcases hk with hk | hk <;> cases hk
          rw [hget_set_ne i1, a4 i (by rcases hk with hk | hk <;> (rw [hk]; decide)) (by omega), hget_old (by rw [List.length_set]; exact hi), hget_set_ne i2]
theorem txt_gives (R : ShS kd h bs L) (hn : n.length ≤ 1000) (t : List Nat) (f : Nat) (hf : n.length + 12 ≤ f) :
    Gives (fun r h' => r = .int 9223372036854775807 (putE L n : Int) ∧ ∃ kd', ShS kd' h' bs (putL L n) ∧ Nk kd h kd' h') ((rl (CL mx) f).run 6 [.pto bs 0, .str n, .str t] h) := by
  obtain ⟨f, rfl⟩ := fuel hf
  refine Gives.runs (n := f + n.length + 11) (kTxt_run mx _ _ _ _ _ _) ?_
  simp only [sy, Nat.reduceAdd, Nat.reduceMul, Nat.reduceSub, Nat.reduceLeDiff, Nat.reduceEqDiff, Nat.reduceLT, reduceIte, kTxt_s]
  refine wEq (bldA_of (cs := [.str t, .nils, .nils, .bool false, .int 4294967295 0, .int 2147483647 0, .int 4294967295 0, .nil, .nil, .int 18446744073709551615 0, .int 9223372036854775807 0, .int 9223372036854775807 0, .int 9223372036854775807 0, .int 9223372036854775807 0, .int 9223372036854775807 0, .int 2147483647 0, .int 18446744073709551615 0, .int 18446744073709551615 0, .int 18446744073709551615 0, .int 18446744073709551615 0, .int 18446744073709551615 0]) (by kernel_rfl)) ?_
  simp only [sy, Nat.reduceAdd, Nat.reduceMul, Nat.reduceSub, Nat.reduceLeDiff, Nat.reduceEqDiff, Nat.reduceLT, reduceIte, boxA_eq]
  have fr : Fr h.length h (h ++ [some (Blk.cells [.str t, .nils, .nils, .bool false, .int 4294967295 0, .int 2147483647 0, .int 4294967295 0, .nil, .nil, .int 18446744073709551615 0, .int 9223372036854775807 0, .int 9223372036854775807 0, .int 9223372036854775807 0, .int 9223372036854775807 0, .int 9223372036854775807 0, .int 2147483647 0, .int 18446744073709551615 0, .int 18446744073709551615 0, .int 18446744073709551615 0, .int 18446744073709551615 0, .int 18446744073709551615 0] (89 + 1))]) := Fr.push (Nat.le_refl _) _
  refine wCall (put_gives (R.grow fr) hn h.length 0 _ (by omega)).call ?_
  rintro r h' ⟨rfl, kd', R', N'⟩
  exact Ends.mk ⟨rfl, kd', R', (Nk.grow fr).trans N'⟩
theorem nms_gives (R : ShS kd h bs L) (f : Nat) : Gives (fun r h' => Ow1 h' (fun b => h.length ≤ b) r (strsA L) ∧ Fr h.length h h') ((rl (CL mx) (f + 2)).run 11 [.pto bs 0] h) := by
  refine Gives.runs (n := f + 1) (kNms_run mx _ _ _ _) ?_
  obtain ⟨bm, ov, vs, ys, e1, e2, e3, e4, e5, e6⟩ := R.ex
  simp only [sy, List.length_append, Nat.reduceAdd, Nat.reduceMul, Nat.reduceSub, Nat.reduceLeDiff, Nat.reduceEqDiff, Nat.reduceLT, reduceIte, kNms_s, e1]
  refine wCall (clo_gives e6 (by have := R.few; omega) f).call ?_
  rintro r h' ⟨o, fr⟩
  exact Ends.mk ⟨o, fr⟩
theorem get_gives (R : ShS kd h bs L) (n : List Nat) (f : Nat) : Gives (fun r h' => h' = h ∧ ((n ∈ L ∧ ∃ b o, r = .pto b o) ∨ (n ∉ L ∧ r = .nil))) ((rl (CL mx) (f + 1)).run 12 [.pto bs 0, .str n] h) := by
  refine Gives.runs (n := f) (kGet_run mx _ _ _ _ _) ?_
  obtain ⟨bm, ov, vs, ys, e1, e2, e3, e4, e5, e6⟩ := R.ex
  have lk := look_str e3 e4 e5 n
  have kiE : (⟨.string, 1, 16, [.str []], false, true⟩ : TI) = kiS := rfl
  have eiE : (⟨(.pointer 89), 1, 8, [.nil], false, false⟩ : TI) = eiS := rfl
  by_cases hin : n ∈ L
  · obtain ⟨b, o, lk⟩ := lk.1 hin
    simp only [sy, List.length_append, Nat.reduceAdd, Nat.reduceMul, Nat.reduceSub, Nat.reduceLeDiff, Nat.reduceEqDiff, Nat.reduceLT, reduceIte, kGet_s, kiE, eiE, e1, lk]
    exact Ends.mk ⟨rfl, .inl ⟨hin, b, o, rfl⟩⟩
  · have lk := lk.2 hin
    simp only [sy, List.length_append, Nat.reduceAdd, Nat.reduceMul, Nat.reduceSub, Nat.reduceLeDiff, Nat.reduceEqDiff, Nat.reduceLT, reduceIte, kGet_s, kiE, eiE, e1, lk]
    exact Ends.mk ⟨rfl, .inr ⟨hin, rfl⟩⟩
theorem dro_miss (R : ShS kd h bs L) (hin : n ∉ L) (f : Nat) : Gives (fun r h' => r = .int 9223372036854775807 3 ∧ ∃ kd', ShS kd' h' bs L ∧ Nk kd h kd' h') ((rl (CL mx) (f + 1)).run 8 [.pto bs 0, .str n] h) := by
  refine Gives.runs (n := f) (kDro_run mx _ _ _ _ _) ?_
  have fr : Fr h.length h (h ++ [some (Blk.cells [.str n] (9 + 1))]) := Fr.push (Nat.le_refl _) _
  have R1 := R.grow fr
  obtain ⟨bm, ov, vs, ys, e1, e2, e3, e4, e5, e6⟩ := R1.ex
  have lk := (look_str e3 e4 e5 n).2 hin
  have kiE : (⟨.string, 1, 16, [.str []], false, true⟩ : TI) = kiS := rfl
  have eiE : (⟨(.pointer 89), 1, 8, [.nil], false, false⟩ : TI) = eiS := rfl
  simp only [sy, List.length_append, Nat.reduceAdd, Nat.reduceMul, Nat.reduceSub, Nat.reduceLeDiff, Nat.reduceEqDiff, Nat.reduceLT, reduceIte, kDro_s, kiE, eiE, e1, lk, eql_nil]
  exact Ends.mk ⟨rfl, _, R1, Nk.grow fr⟩
theorem dro_gives {A B : List (List Nat)} (R : ShS kd h bs (A ++ n :: B)) (f : Nat) (hf : A.length + B.length + 12 ≤ f) : Gives (fun r h' => r = .int 9223372036854775807 0 ∧ ∃ kd', ShS kd' h' bs (A ++ B) ∧ Nk kd h kd' h') ((rl (CL mx) f).run 8 [.pto bs 0, .str n] h) := by
  obtain ⟨f, rfl⟩ := fuel hf
  refine Gives.runs (n := f + (A.length + B.length) + 11) (kDro_run mx _ _ _ _ _) ?_
  have fr : Fr h.length h (h ++ [some (Blk.cells [.str n] (9 + 1))]) := Fr.push (Nat.le_refl _) _
  have R1 := R.grow fr
  have hq := hget_top h (some (Blk.cells [.str n] (9 + 1)))
  have hl1 : (h ++ [some (Blk.cells [.str n] (9 + 1))]).length = h.length + 1 := by simp
  have N1 : Nk kd h (extL kd h.length 0) (h ++ [some (Blk.cells [.str n] (9 + 1))]) := Nk.grow fr
  generalize hH : h ++ [some (Blk.cells [.str n] (9 + 1))] = h1 at *
  have hnd := R.nd
  have hfew := R.few
  have hA : n ∉ A := fun c => (List.nodup_append.1 hnd).2.2 n c n (by simp) rfl
  have hB : n ∉ B := (List.nodup_cons.1 (List.nodup_append.1 hnd).2.1).1
  have hfew' : A.length + (B.length + 1) ≤ 64 := by simpa using hfew
  obtain ⟨bm, ov, vs, ys, e1, e2, e3, e4, e5, e6⟩ := R1.ex
  obtain ⟨b0, o0, lk⟩ := (look_str e3 e4 e5 n).1 (by simp)
  have kiE : (⟨.string, 1, 16, [.str []], false, true⟩ : TI) = kiS := rfl
  have eiE : (⟨(.pointer 89), 1, 8, [.nil], false, false⟩ : TI) = eiS := rfl
  have ds := del_str e3 hA
  have hm1 := hget_of_lt e3
  have hb1 := hget_of_lt e1
  have hne : bm ≠ bs := fun c => by have := R1.kb; rw [← c, e2] at this; cases this
  have hk0 : ∀ κ : Ka, load1 (.pto h.length 0) h1 κ = κ (.str n) h1 := fun κ => ld_row hq rfl κ
  have hH2 : (h1.set bm (some (Blk.map (strsA (A ++ B)) (vs.eraseIdx A.length)))).length = h1.length := by simp
  have g1 : hget (h1.set bm (some (Blk.map (strsA (A ++ B)) (vs.eraseIdx A.length)))) bs = some (.cells [.mpo bm, ov] ys) := by rw [hget_set_ne hne]; exact e1
  have g2 : hget (h1.set bm (some (Blk.map (strsA (A ++ B)) (vs.eraseIdx A.length)))) bm = some (Blk.map (strsA (A ++ B)) (vs.eraseIdx A.length)) := hget_set_same hm1 _
  have kbm : extL kd h.length 0 h.length = 0 := extL_ge (Nat.le_refl _)
  have g3 : hget (h1.set bm (some (Blk.map (strsA (A ++ B)) (vs.eraseIdx A.length)))) h.length = some (Blk.cells [.str n] (9 + 1)) := by
    rw [hget_set_ne (fun c => by rw [c, kbm] at e2; cases e2)]; exact hq
  have g4 : ∀ i, i ≠ bm → hget (h1.set bm (some (Blk.map (strsA (A ++ B)) (vs.eraseIdx A.length)))) i = hget h1 i := fun i hi => hget_set_ne (Ne.symm hi) _
  have ble : Nat.ble (flen h1) (flen (h1.set bm (some (Blk.map (strsA (A ++ B)) (vs.eraseIdx A.length))))) = true := by rw [nble, flen_eq, flen_eq, hH2]; simp
  have o2 : Ow1 (h1.set bm (some (Blk.map (strsA (A ++ B)) (vs.eraseIdx A.length)))) (fun b => extL kd h.length 0 b = 3) ov (strsA (A ++ n :: B)) := e6.mono fun b hb hs => ⟨hs, g4 b fun c => by rw [c, e2] at hs; cases hs⟩
  have boxE : ∀ κ : Ka, boxA (9 + 1) (.str n) h κ = κ (.pto h.length 0) h1 := fun κ => by rw [boxA_eq, ← hH]; rfl
  generalize hHH : h1.set bm (some (Blk.map (strsA (A ++ B)) (vs.eraseIdx A.length))) = h2 at *
  simp only [sy, List.length_append, Nat.reduceAdd, Nat.reduceMul, Nat.reduceSub, Nat.reduceLeDiff, Nat.reduceEqDiff, Nat.reduceLT, reduceIte, kDro_s, kiE, eiE]
  rw [hH]
  simp only [sy, List.length_append, Nat.reduceAdd, Nat.reduceMul, Nat.reduceSub, Nat.reduceLeDiff, Nat.reduceEqDiff, Nat.reduceLT, reduceIte, kDro_s, kiE, eiE, e1, hk0, hq, lk, eql_pto, ds, ble, g1]
  refine wCall (clo_gives o2 (by simp; omega) _).call ?_
  rintro r h3 ⟨o3, fr3⟩
  refine wCall (dlf_gives (S := fun b => h2.length ≤ b) (q := h.length) hA hB (by omega) (by rw [hH2]; omega) (kb := some (Blk.cells [.str n] (9 + 1))) (fun h κ e => ld_row e rfl κ) (by rw [fr3.2 _ (by rw [hH2]; omega)]; exact g3) o3 _ (by omega)).call ?_
  rintro r h4 ⟨o4, n4, f4⟩
  have g5 : hget h4 bs = some (.cells [.mpo bm, ov] ys) := by rw [f4 bs (by rw [hH2]; omega), fr3.2 bs (by rw [hH2]; omega)]; exact g1
  have g6 : hget h4 bm = some (Blk.map (strsA (A ++ B)) (vs.eraseIdx A.length)) := by rw [f4 bm (by rw [hH2]; omega), fr3.2 bm (by rw [hH2]; omega)]; exact g2
  simp only [sy, List.length_append, Nat.reduceAdd, Nat.reduceMul, Nat.reduceSub, Nat.reduceLeDiff, Nat.reduceEqDiff, Nat.reduceLT, reduceIte, kDro_s, g5, o4.plain]
  have hb4 := hget_of_lt g5
  have hle := fr3.1
  let kd2 : Nat → Nat := fun i => if i < h1.length then extL kd h.length 0 i else 3
  have k2l : ∀ i, i < h1.length → kd2 i = extL kd h.length 0 i := fun i hi => if_pos hi
  refine Ends.mk ⟨rfl, kd2, ⟨by rw [k2l bs hb1]; exact R1.kb, ⟨bm, r, vs.eraseIdx A.length, ys, hget_set_same hb4 _, by rw [k2l bm hm1]; exact e2, by rw [hget_set_ne (Ne.symm hne)]; exact g6, ?_, fun v hv => e5 v (List.mem_of_mem_eraseIdx hv), ?_⟩, ?_, by simp; try omega⟩, ?_⟩
  · rw [List.length_eraseIdx, if_pos (by rw [e4]; simp), e4]; simp
  · refine o4.mono fun b hb hs => ⟨?_, ?_⟩
    · show (if b < h1.length then _ else 3) = 3
      rw [if_neg (by rw [hH2] at hs; omega)]
    · rw [hget_set_ne (by rw [hH2] at hs; omega)]
  · have h1' := List.nodup_append.1 hnd
    exact List.nodup_append.2 ⟨h1'.1, (List.nodup_cons.1 h1'.2.1).2, fun a ha b hb => h1'.2.2 a ha b (by simp [hb])⟩
  · refine N1.trans ⟨by rw [List.length_set, n4]; omega, fun i hi hk => ⟨k2l i hi, ?_⟩⟩
    have i1 : bs ≠ i := fun c => by rw [← c, R1.kb] at hk; rcases hk with hk | hk <;> cases hk
    have i2 : i ≠ bm := fun c => by rw [c, e2] at hk; rcases hk with hk | hk <;> cases hk
    rw [hget_set_ne i1, f4 i (by rw [hH2]; omega), fr3.2 i (by rw [hH2]; omega), g4 i i2]
end
end Go.Proofs.YtdkioifmieamoaaGreatDoor
