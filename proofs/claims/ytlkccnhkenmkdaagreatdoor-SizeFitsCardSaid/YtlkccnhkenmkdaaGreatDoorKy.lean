/- dfa.key: numbers as a text, two bytes each: told by a law of its own. -/
import Derived.Test.YtlkccnhkenmkdaaGreatDoorSq
import Derived.Test.YtlkccnhkenmkdaaGreatDoorME
namespace Go.Proofs.YtlkccnhkenmkdaaGreatDoor
set_option linter.unusedSimpArgs false
set_option linter.unusedVariables false
set_option linter.unnecessarySimpa false
set_option linter.defProp false
noncomputable section
def CK (mx : Int) : Cx := (CS mx).ownd fun _ => true
/- guipure/dfa.key -/
def kKey_T (v0 v2 v3 v5 v10 v11 v12 v13 : AV) : Tm := (.nd 10 (.nd 3 (.nd 2 (.lf 0 v0) (.lf 2 v2)) (.nd 5 (.lf 3 v3) (.lf 5 v5))) (.nd 12 (.nd 11 (.lf 10 v10) (.lf 11 v11)) (.nd 13 (.lf 12 v12) (.lf 13 v13))))
def kKey_0 (mx : Int) : K := kAt [] (kOf (CK mx) 184)
def kKey_1 (mx : Int) : K := kAt [1, 1, 0] (kOf (CK mx) 184)
def kKey_2 (mx : Int) : K := kAt [1, 1, 1] (kOf (CK mx) 184)
def kKey_3 (mx : Int) : K := kAt [1, 1, 0, 1, 0, 0] (kOf (CK mx) 184)
section
set_option maxRecDepth 100000
variable (mx : Int) (run : Run) (lp : Lp) (κn : Kt) (κx : Ex → Kt) (h : AH) (v0 v2 v3 v5 v10 v11 v12 v13 : AV)
theorem kKey_0_eq : kc (CK mx) run lp (kKey_0 mx) ⟨kKey_T v0 v2 v3 v5 v10 v11 v12 v13, h⟩ κn κx = lenS v0 h (fun a0 h => arith imul (.int 9223372036854775807 2) a0 h (fun a1 h => mkSl 1 1 [.int 255 0] (.int 9223372036854775807 0) a1 h (fun a2 h => kc (CK mx) run lp (kKey_1 mx) ⟨kKey_T v0 (.str []) a2 v5 v10 v11 v12 v13, h⟩ (fun s => kc (CK mx) run lp (kKey_2 mx) s κn κx) κx))) := by kernel_rfl
theorem kKey_1_eq : kc (CK mx) run lp (kKey_1 mx) ⟨kKey_T v0 v2 v3 v5 v10 v11 v12 v13, h⟩ κn κx = lenS v0 h (fun a0 h => kcR κn (kcO 0 κn κx) (lp (kKey_3 mx) ⟨kKey_T v0 v2 v3 v5 v0 a0 (.int 9223372036854775807 0) v13, h⟩)) := by kernel_rfl
theorem kKey_2_eq : kc (CK mx) run lp (kKey_2 mx) ⟨kKey_T v0 v2 v3 v5 v10 v11 v12 v13, h⟩ κn κx = bytesStr v3 h (fun a0 h => κx .ret ⟨kKey_T v0 a0 v3 v5 v10 v11 v12 v13, h⟩) := by kernel_rfl
theorem kKey_3_eq : kc (CK mx) run lp (kKey_3 mx) ⟨kKey_T v0 v2 v3 v5 v10 v11 v12 v13, h⟩ κn κx = cmp ilt v12 v11 h (fun a0 h => kcIf a0 (idxS 1 v10 v12 h (fun a1 h => load1 a1 h (fun a2 h => shrA 9223372036854775807 64 a2 (.int 18446744073709551615 8) h (fun a3 h => cvI 255 a3 h (fun a4 h => cvI 255 a2 h (fun a5 h => bldS 1 2 [.int 255 0] [(0, a4), (1, a5)] h (fun a6 h => appA 6 1 1 v3 a6 h (fun a7 h => arith iadd v12 (.int 9223372036854775807 1) h (fun a8 h => κn ⟨kKey_T v0 v2 a7 a2 v10 v11 a8 a0, h⟩))))))))) (κx (.exit 0) ⟨kKey_T v0 v2 v3 v5 v10 v11 v12 a0, h⟩)) := by kernel_rfl
theorem kKey_end : kcE (CK mx) [.tmp 2] ⟨kKey_T v0 v2 v3 v5 v10 v11 v12 v13, h⟩ = some (.vh v2 h) := (kcE_eq _ _ _).trans (by kernel_rfl)
theorem kKey_fk : fkAt (CK mx) 184 = some ⟨kKey_0 mx, [0, 2, 3, 5, 10, 11, 12, 13], 27, [.tmp 2]⟩ := by kernel_rfl
end
theorem kKey_run (mx : Int) (run : Run) (lp : Lp) (x0 : AV) (h : AH) : runF (CK mx) run lp 184 [x0] h = vhO (kc (CK mx) run lp (kKey_0 mx) ⟨kKey_T x0 .bot .bot .bot .bot .bot .bot .bot, h⟩ (kcE (CK mx) [.tmp 2]) (kcQ (CK mx) [.tmp 2])) := (run_kc (by kernel_rfl) (kKey_fk mx) (by kernel_rfl)).trans (by kernel_rfl)
theorem kKey_nat (mx : Int) (p : List Nat) : NatK (CK mx) (kAt p (kOf (CK mx) 184)) := kAt_nat p (kOf_nat (CK mx) 184)
def kKey_s := And.intro @kKey_0_eq (And.intro @kKey_1_eq (And.intro @kKey_2_eq (And.intro @kKey_3_eq (@kKey_end))))
def intA (l : List Nat) : List AV := l.map fun b : Nat => AV.int 9223372036854775807 (b : Int)
def keyB (l : List Nat) : List Nat := List.rec (motive := fun _ => List Nat) [] (fun s _ ih => Nat.mod (Nat.div s 256) 256 :: Nat.mod s 256 :: ih) l
end
theorem keyB_app : ∀ a b : List Nat, keyB (a ++ b) = keyB a ++ keyB b
  | [], b => rfl
  | s :: a, b => by show _ :: _ :: keyB (a ++ b) = _; rw [keyB_app a b]; rfl
theorem keyB_len : ∀ l : List Nat, (keyB l).length = 2 * l.length
  | [] => rfl
  | s :: l => by show (keyB l).length + 1 + 1 = _; rw [keyB_len l, List.length_cons]; omega
theorem keyB_lt : ∀ l : List Nat, ∀ b ∈ keyB l, b < 256
  | [], b, h => nomatch h
  | s :: l, b, h => by
    rcases List.mem_cons.1 h with rfl | h
    · exact Nat.mod_lt _ (by decide)
    · rcases List.mem_cons.1 h with rfl | h
      · exact Nat.mod_lt _ (by decide)
      · exact keyB_lt l b h
theorem intA_len (l : List Nat) : (intA l).length = l.length := by simp [intA]
theorem intA_get {l : List Nat} {i b : Nat} (h : l[i]? = some b) : (intA l)[i]? = some (.int 9223372036854775807 (b : Int)) := by unfold intA; rw [List.getElem?_map, h]; rfl
section
variable {h : AH} {κ : Ka}
/-- A row with room behind it. -/
theorem app_spare (ty : Nat) (by_ : Nat) {B y c : Nat} {e : Bool} {xs ys ds : List AV} {x : AV} (hb : hget h B = some (.cells (xs ++ ys) y)) (hx : SlAt h x ds) (hp : plains ds = true) (hc : xs.length + ds.length ≤ c) (hy : ds.length ≤ ys.length) :
    appA ty 1 by_ (.slo B 0 xs.length c 1 e) x h κ = κ (.slo B 0 (xs.length + ds.length) c 1 e) (h.set B (some (.cells (xs ++ ds ++ ys.drop ds.length) y))) := by
  unfold appA
  rw [hx.lenA, obind_some, hx.elems, obind_some, hp, nbeq, flen_eq, show Nat.mul ds.length 1 = ds.length from Nat.mul_one _, decide_eq_true rfl]
  show cellsR h B (apC ty 1 by_ ds.length ds h κ B 0 xs.length c e) _ = _
  unfold cellsR
  rw [hb]
  show apC ty 1 by_ ds.length ds h κ B 0 xs.length c e (xs ++ ys) y = _
  unfold apC
  rw [nble, show Nat.add xs.length ds.length = xs.length + ds.length from rfl, bq_dec_pos hc, nble, flen_eq, show Nat.add 0 (Nat.mul (xs.length + ds.length) 1) = xs.length + ds.length by show 0 + (xs.length + ds.length) * 1 = _; omega,
    bq_dec_pos (by rw [List.length_append]; omega), show Nat.add 0 (Nat.mul xs.length 1) = xs.length by show 0 + xs.length * 1 = _; omega, fset_eq]
  unfold setR
  rw [fapp_eq, fapp_eq, ftake_eq, fdrop_eq, flen_eq, List.take_left, show Nat.add xs.length ds.length = xs.length + ds.length from rfl, List.drop_append, List.append_assoc, show xs.length + ds.length - xs.length = ds.length by omega, List.drop_eq_nil_of_le (show xs.length ≤ xs.length + ds.length by omega), List.nil_append]
theorem bldS_2 (z : AV) (k1 k2 : Nat) (a b : Int) : bldS 1 2 [z] [(0, .int k1 a), (1, .int k2 b)] h κ = κ (.slo h.length 0 2 2 1 true) (h ++ [some (.cells [.int k1 a, .int k2 b] 0)]) := by
  have e : bldS 1 2 [z] [(0, .int k1 a), (1, .int k2 b)] h κ = κ (.slo (flen h) 0 2 2 1 true) (fapp h [some (.cells [.int k1 a, .int k2 b] 0)]) := by kernel_rfl
  rw [e, flen_eq, fapp_eq]
theorem SlAt.new2 (a b : AV) : SlAt (h ++ [some (.cells [a, b] 0)]) (.slo h.length 0 2 2 1 true) [a, b] :=
  .inr (.inr ⟨h.length, 0, 2, [a, b], 0, true, rfl, hget_top _ _, rfl, by simp⟩)
end
theorem wrap_u8 (n : Nat) : wrapA 255 (n : Int) = ((n % 256 : Nat) : Int) := by
  by_cases h : n ≤ 255
  · rw [wrapA_nat h, Nat.mod_eq_of_lt (by omega)]
  · have e : wrapA 255 (n : Int) = IntKind.u8.wrap (n : Int) := by
      show bq (Nat.ble n 255) _ _ = _
      rw [nble, bq_dec_neg h]
      rfl
    rw [e]
    unfold IntKind.wrap
    simp [IntKind.bits, IntKind.signed]
section
variable {mx : Int} {Q : Option Rs → Prop} {κn : Kt} {κx : Ex → Kt} {l : List Nat} {sl : AV} {h0 : AH}
theorem key_loop (hs : SlAt h0 sl (intA l)) (hl : l.length ≤ 400) (hm : ∀ x ∈ l, x ≤ 9223372036854775807) (v0 v2 : AV) (B : Nat) (hB : h0.length ≤ B) : ∀ (r p : List Nat) (f : Nat) (v5 v13 : AV) (h : AH), l = p ++ r → r.length + 1 ≤ f → Fr h0.length h0 h → hget h B = some (.cells (bytesA (keyB p) ++ List.replicate (2 * r.length) (.int 255 0)) 0) →
    (∀ v5 v13 h, Fr h0.length h0 h → hget h B = some (.cells (bytesA (keyB l)) 0) → Q (κx (.exit 0) ⟨kKey_T v0 v2 (.slo B 0 (2 * l.length) (2 * l.length) 1 true) v5 sl (.int 9223372036854775807 (l.length : Int)) (.int 9223372036854775807 (l.length : Int)) v13, h⟩)) →
    Q (kcR κn κx ((rl (CK mx) f).lp (kKey_3 mx) ⟨kKey_T v0 v2 (.slo B 0 (2 * p.length) (2 * l.length) 1 true) v5 sl (.int 9223372036854775807 (l.length : Int)) (.int 9223372036854775807 (p.length : Int)) v13, h⟩)) := by
  intro r
  induction r with
  | nil =>
    intro p f v5 v13 h hp hf fr hc hk
    obtain ⟨f, rfl⟩ := fuel hf
    obtain rfl : l = p := by simpa using hp
    refine wLoop (kKey_nat mx _) ?_
    simp only [sy, List.length_append, Nat.reduceAdd, Nat.reduceMul, Nat.reduceSub, Nat.reduceLeDiff, Nat.reduceEqDiff, Nat.reduceLT, reduceIte, kKey_s, Int.lt_irrefl]
    exact hk _ _ _ fr (by simpa using hc)
  | cons x r ih =>
    intro p f v5 v13 h hp hf fr hc hk
    obtain ⟨f, rfl⟩ := fuel hf
    have hlen : l.length = p.length + (r.length + 1) := by rw [hp]; simp
    have hx : x ≤ 9223372036854775807 := hm x (by rw [hp]; simp)
    have hc1 : (p.length : Int) < (l.length : Int) := by omega
    have hgx : l[p.length]? = some x := by rw [hp]; simp
    refine wLoop (kKey_nat mx _) ?_
    obtain ⟨q, hq, hi, hld⟩ := (hs.up fr).idx (intA_get hgx)
    have hsh : ∀ (h : AH) (κ : Ka), shrA 9223372036854775807 64 (AV.int 9223372036854775807 (x : Int)) (AV.int 18446744073709551615 8) h κ = κ (.int 9223372036854775807 ((x / 256 : Nat) : Int)) h := fun _ _ => rfl
    have hcv : ∀ (n : Nat) (h : AH) (κ : Ka), cvI 255 (.int 9223372036854775807 (n : Int)) h κ = κ (.int 255 ((n % 256 : Nat) : Int)) h := fun n h κ => by
      have : cvI 255 (.int 9223372036854775807 (n : Int)) h κ = κ (.int 255 (wrapA 255 (n : Int))) h := rfl
      rw [this, wrap_u8]
    have hw : wrapA 9223372036854775807 ((p.length : Int) + 1) = ((p.length + 1 : Nat) : Int) := wrapA_nat (a := p.length + 1) (by omega)
    have hBl : B < h.length := hget_of_lt hc
    have hc' : hget (h ++ [some (.cells [.int 255 ((x / 256 % 256 : Nat) : Int), .int 255 ((x % 256 : Nat) : Int)] 0)]) B = some (.cells (bytesA (keyB p) ++ List.replicate (2 * (r.length + 1)) (.int 255 0)) 0) := by rw [hget_old hBl]; exact hc
    have hsp := fun κ => app_spare (κ := κ) (5 + 1) 1 (c := 2 * l.length) (e := true) hc' (SlAt.new2 _ _) rfl (by rw [bytesA_len, keyB_len]; simp; omega) (by simp; omega)
    rw [bytesA_len, keyB_len] at hsp
    simp only [sy, List.length_append, Nat.reduceAdd, Nat.reduceMul, Nat.reduceSub, Nat.reduceLeDiff, Nat.reduceEqDiff, Nat.reduceLT, reduceIte, kKey_s, decide_eq_true hc1, hi, hld, hsh, hcv, wrap_u8, bldS_2]
    simp only [Nat.reduceAdd] at hsp
    rw [hsp, hw]
    have hc2 : hget (List.set (h ++ [some (Blk.cells [AV.int 255 ((x / 256 % 256 : Nat) : Int), AV.int 255 ((x % 256 : Nat) : Int)] 0)]) B (some (Blk.cells (bytesA (keyB p) ++ [AV.int 255 ((x / 256 % 256 : Nat) : Int), AV.int 255 ((x % 256 : Nat) : Int)] ++ (List.replicate (2 * (r.length + 1)) (AV.int 255 0)).drop 2) 0))) B = some (Blk.cells (bytesA (keyB (p ++ [x])) ++ List.replicate (2 * r.length) (AV.int 255 0)) 0) := by
      rw [hget_set_same (by simp; omega), keyB_app, bytesA_app, List.drop_replicate, show 2 * (r.length + 1) - 2 = 2 * r.length by omega]
      rfl
    have := ih (p ++ [x]) (f + (r.length + 1)) (.int 9223372036854775807 (x : Int)) (.bool true) _ (by rw [hp]; simp) (by omega) ((fr.trans (Fr.push (by exact fr.1) _)).trans (Fr.set hB _)) hc2 hk
    rw [List.length_append, List.length_singleton, Nat.mul_add] at this
    exact this
theorem mkSl_0 {z : AV} {c : Nat} (hc : c ≤ 1000) (h : AH) (κ : Ka) : mkSl 1 1 [z] (.int 9223372036854775807 0) (.int 9223372036854775807 (c : Int)) h κ = κ (.slo h.length 0 0 c 1 true) (h ++ [some (.cells (List.replicate c z) 0)]) := by
  have rep : ∀ n : Nat, repA [z] n = List.replicate n z := fun n => by
    induction n with
    | zero => rfl
    | succ n ih => show fapp [z] (repA [z] n) = _; rw [ih]; rfl
  have e : mkSl 1 1 [z] (.int 9223372036854775807 0) (.int 9223372036854775807 (c : Int)) h κ = bq (and (Nat.ble 0 c) (and (Nat.ble (Nat.mul 1 c) 1099511627776) (Nat.ble c 1099511627776))) (κ (.slo (flen h) 0 0 c 1 true) (fapp h [some (.cells (repA [z] c) 0)])) none := by kernel_rfl
  rw [e, nble, nble, nble, decide_eq_true (Nat.zero_le c), decide_eq_true (show Nat.mul 1 c ≤ 1099511627776 by show 1 * c ≤ _; omega), decide_eq_true (show c ≤ 1099511627776 by omega), rep, flen_eq, fapp_eq]
  rfl
set_option maxRecDepth 100000 in
theorem key_run (hs : SlAt h0 sl (intA l)) (hl : l.length ≤ 400) (hm : ∀ x ∈ l, x ≤ 9223372036854775807) : Gives (fun r h' => r = .str (keyB l) ∧ Fr h0.length h0 h') ((rl (CK mx) 410).run 184 [sl] h0) := by
  refine Gives.runs (n := 409) (kKey_run mx _ _ _ _) ?_
  have hL := hs.lenS
  rw [intA_len] at hL
  have hml : ∀ (h : AH) (κ : Ka), arith imul (.int 9223372036854775807 2) (.int 9223372036854775807 (l.length : Int)) h κ = κ (.int 9223372036854775807 ((2 * l.length : Nat) : Int)) h := fun h κ => by
    have : arith imul (.int 9223372036854775807 2) (.int 9223372036854775807 (l.length : Int)) h κ = κ (.int 9223372036854775807 (wrapA 9223372036854775807 ((2 * l.length : Nat) : Int))) h := rfl
    rw [this, wrapA_nat (by omega)]
  simp only [sy, List.length_append, Nat.reduceAdd, Nat.reduceMul, Nat.reduceSub, Nat.reduceLeDiff, Nat.reduceEqDiff, Nat.reduceLT, reduceIte, kKey_s, hL, hml, mkSl_0 (show 2 * l.length ≤ 1000 by omega)]
  refine key_loop hs hl hm _ _ h0.length (Nat.le_refl _) l [] _ _ _ _ (by simp) (by omega) (Fr.push (Nat.le_refl _) _) (by rw [hget_top]; rfl) (fun v5 v13 h fr hc => ?_)
  have st := str_of (h := h) (v := .slo h0.length 0 (2 * l.length) (2 * l.length) 1 true) (l := keyB l) (.inr (.inr ⟨h0.length, 0, 2 * l.length, bytesA (keyB l), 0, true, by rw [bytesA_len, keyB_len], hc, by rw [List.drop_zero, List.take_length], by rw [Nat.zero_add]; exact Nat.le_refl _⟩)) (keyB_lt l)
  simp only [sy, List.length_append, Nat.reduceAdd, Nat.reduceMul, Nat.reduceSub, Nat.reduceLeDiff, Nat.reduceEqDiff, Nat.reduceLT, reduceIte, kKey_s, st]
  exact Ends.mk ⟨rfl, fr⟩
end
/- The law as the evaluator is told it. -/
noncomputable section
def natI (v : AV) : Option Nat := match v with
  | .int k (.ofNat n) => bq (and (Nat.beq k 9223372036854775807) (Nat.ble n 9223372036854775807)) (some n) none
  | _ => none
def natsI (l : List AV) : Option (List Nat) := List.rec (motive := fun _ => Option (List Nat)) (some []) (fun a _ ih => obind (natI a) fun n => obind ih fun r => some (n :: r)) l
def rowO (h : AH) (v : AV) : Option (List AV) := match v with
  | .slo b o n _ z _ => obind (hget h b) fun x => Blk.rec (motive := fun _ => Option (List AV)) (fun cs _ => bq (and (Nat.beq z 1) (Nat.ble (Nat.add o n) (flen cs))) (some (ftake n (fdrop o cs))) none) (fun _ _ => none) (fun _ _ _ => none) x
  | .slp cs n => bq (Nat.ble n (flen cs)) (some (ftake n cs)) none
  | .nils => some []
  | _ => none
def keyG (args : List AV) (h : AH) : Option (AV × AH) := match args with
  | [v] => obind (rowO h v) fun cs => obind (natsI cs) fun l => bq (and (Nat.ble (flen l) 400) (hlt (flen h) h)) (some (.str (keyB l), h)) none
  | _ => none
def CT (mx : Int) : Cx := (CS mx).opened 184 keyG
end
theorem natsI_eq : ∀ {cs : List AV} {l : List Nat}, natsI cs = some l → cs = intA l ∧ ∀ x ∈ l, x ≤ 9223372036854775807
  | [], l, e => by cases e; exact ⟨rfl, fun x h => nomatch h⟩
  | a :: cs, l, e => by
    obtain ⟨n, e1, e2⟩ := obind_eq_some (show obind (natI a) _ = some l from e)
    obtain ⟨r, e3, e4⟩ := obind_eq_some e2
    cases e4
    obtain ⟨ih, ih2⟩ := natsI_eq (show natsI cs = some r from e3)
    unfold natI at e1
    split at e1
    · rename_i k m
      obtain ⟨q1, q2⟩ := bq_some e1
      cases q2
      rw [Bool.and_eq_true] at q1
      obtain rfl := Nat.eq_of_beq_eq_true q1.1
      refine ⟨by rw [ih]; rfl, fun x hx => ?_⟩
      rcases List.mem_cons.1 hx with rfl | hx
      · exact Nat.le_of_ble_eq_true q1.2
      · exact ih2 x hx
    · cases e1
theorem rowO_at {h : AH} {v : AV} {cs : List AV} (e : rowO h v = some cs) : SlAt h v cs := by
  unfold rowO at e
  split at e
  · rename_i b o n c z ex
    obtain ⟨x, e1, e2⟩ := obind_eq_some e
    cases x with
    | cells row y =>
      obtain ⟨q1, q2⟩ := bq_some (show bq (and (Nat.beq z 1) (Nat.ble (Nat.add o n) (flen row))) (some (ftake n (fdrop o row))) none = some cs from e2)
      cases q2
      rw [Bool.and_eq_true] at q1
      obtain rfl := Nat.eq_of_beq_eq_true q1.1
      have hle := Nat.le_of_ble_eq_true q1.2
      rw [flen_eq] at hle
      have hle : o + n ≤ row.length := hle
      have hn : (ftake n (fdrop o row)).length = n := by rw [ftake_eq, fdrop_eq, List.length_take, List.length_drop]; omega
      refine .inr (.inr ⟨b, o, c, row, y, ex, by rw [hn], e1, by rw [hn, ftake_eq, fdrop_eq], by rw [hn]; exact hle⟩)
    | map _ _ => cases e2
    | rows _ _ _ => cases e2
  · rename_i row n
    obtain ⟨q1, q2⟩ := bq_some e
    cases q2
    have hle := Nat.le_of_ble_eq_true q1
    rw [flen_eq] at hle
    have hn : (ftake n row).length = n := by rw [ftake_eq, List.length_take]; omega
    exact .inr (.inl ⟨row, by rw [hn], by rw [hn, ftake_eq]⟩)
  · cases e; exact .inl ⟨rfl, .inl rfl⟩
  · cases e
set_option maxRecDepth 1000000 in
theorem ct_ok {mx : Int} (X : CxOk Tryz.prog (CS mx)) : CxOk Tryz.prog (CT mx) := X.opened fun args h r h' e => by
  unfold keyG at e
  split at e
  case h_2 => cases e
  rename_i v
  obtain ⟨cs, e1, e2⟩ := obind_eq_some e
  obtain ⟨l, e3, e4⟩ := obind_eq_some e2
  obtain ⟨e5, e6⟩ := bq_some e4
  cases e6
  rw [Bool.and_eq_true] at e5
  have hl := Nat.le_of_ble_eq_true e5.1
  rw [flen_eq] at hl
  obtain ⟨rfl, hm⟩ := natsI_eq e3
  obtain ⟨r, h', er, rfl, fr⟩ := key_run (mx := mx) (rowO_at e1) hl hm
  obtain ⟨q1, q2⟩ := (runN_ok (X.ownd fun _ => true) 410 _ _ _ _ _ er)
  refine ⟨q1, fun ok w ρ us I hv => (q2 ok w ρ us (I.of_gl (ownd_gl (CS mx) fun _ => true)) hv).mono fun en w' => ?_⟩
  rintro ⟨u, ok', ρ', rfl, E, I', hv'⟩
  have ht : h'.take h.length = h := by
    apply List.ext_getElem?
    intro i
    rw [List.getElem?_take]
    split
    · next hi =>
      have hi' : i < h'.length := Nat.lt_of_lt_of_le hi fr.1
      have hh := fr.2 i hi
      rw [hget_eq, hget_eq, List.getElem?_eq_getElem hi, List.getElem?_eq_getElem hi'] at hh
      rw [List.getElem?_eq_getElem hi, List.getElem?_eq_getElem hi']
      exact congrArg some hh
    · next hi => rw [List.getElem?_eq_none (by omega)]
  obtain ⟨ρ2, E2, I2, sub, _⟩ := trimH_ok (I.of_gl (ownd_gl (CS mx) fun _ => true)) E I' (by rw [ht]; have e7 := e5.2; rw [flen_eq] at e7; exact e7)
  rw [ht] at E2 I2
  exact ⟨u, ok', ρ2, rfl, E2, I2.of_gl (ownd_gl (CS mx) fun _ => true).symm, V.names (k := 0) _ (fun n r hn => absurd hn (Nat.not_lt_zero n)) rfl hv'⟩
end Go.Proofs.YtlkccnhkenmkdaaGreatDoor
