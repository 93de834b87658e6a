/- Regions that draw their order, where each order does what the text's does: they are gone through as others, with some questions between. -/
import Derived.Test.YtdkioifmieamoaaGreatDoorME
namespace Go.Proofs.YtdkioifmieamoaaGreatDoor
set_option linter.unusedSimpArgs false
set_option linter.unusedVariables false
set_option linter.unnecessarySimpa false
/-- Memory isn't asked; memory is asked alone; something new is laid behind all at most. -/
def PureF (F : AH → Ka → Option Rs) : Prop := (∀ h κ, F h κ = none) ∨ ∃ v, ∀ h κ, F h κ = κ v h
def ReadF (F : AH → Ka → Option Rs) : Prop := ∀ h, (∀ κ, F h κ = none) ∨ ∃ v, ∀ κ, F h κ = κ v h
def MakeF (F : AH → Ka → Option Rs) : Prop := (∀ h κ, F h κ = none) ∨ (∃ v, ∀ h κ, F h κ = κ v h) ∨ ∃ (g : Nat → AV) (B : Option Blk), ∀ h κ, F h κ = κ (g (flen h)) (fapp h [B])
theorem PureF.read {F : AH → Ka → Option Rs} (p : PureF F) : ReadF F := fun h => by
  rcases p with p | ⟨v, p⟩
  · exact .inl (p h)
  · exact .inr ⟨v, p h⟩
section
variable {α : Type} {C : Cx} {run : Run} {σ : List AV} {T : Tms} {x y z : AV} {ds : List (Option Nat)} {h : AH}
theorem P0 : PureF fun _ _ => none := .inl fun _ _ => rfl
theorem P1 (v : AV) : PureF fun h κ => κ v h := .inr ⟨v, fun _ _ => rfl⟩
theorem Pb (c : Bool) {F G : AH → Ka → Option Rs} (hF : PureF F) (hG : PureF G) : PureF fun h κ => bq c (F h κ) (G h κ) := by cases c <;> assumption
theorem Po (o : Option α) {F : α → AH → Ka → Option Rs} (H : ∀ a, PureF (F a)) : PureF fun h κ => obind o fun a => F a h κ := by
  cases o with
  | none => exact P0
  | some a => exact H a
theorem PInt (x : AV) {F : Nat → Int → AH → Ka → Option Rs} (H : ∀ k n, PureF (F k n)) : PureF fun h κ => avInt x fun k n => F k n h κ := by cases x <;> first | exact H _ _ | exact P0
theorem PBool (x : AV) {F : Bool → AH → Ka → Option Rs} (H : ∀ b, PureF (F b)) : PureF fun h κ => avBool x fun b => F b h κ := by cases x <;> first | exact H _ | exact P0
theorem PStr (x : AV) {F : List Nat → AH → Ka → Option Rs} (H : ∀ b, PureF (F b)) : PureF fun h κ => avStr x fun b => F b h κ := by cases x <;> first | exact H _ | exact P0
theorem PPtr (x : AV) {F : Nat → Nat → AH → Ka → Option Rs} {G : List AV → Nat → AH → Ka → Option Rs} (H : ∀ b o, PureF (F b o)) (H' : ∀ b o, PureF (G b o)) : PureF fun h κ => avPtr x (fun b o => F b o h κ) (fun c o => G c o h κ) := by
  cases x <;> first | exact H _ _ | exact H' _ _ | exact P0
theorem PAgg (x : AV) {F : List AV → AH → Ka → Option Rs} (H : ∀ b, PureF (F b)) : PureF fun h κ => avAgg x fun b => F b h κ := by cases x <;> first | exact H _ | exact P0
theorem PTup (x : AV) {F : List AV → AH → Ka → Option Rs} (H : ∀ b, PureF (F b)) : PureF fun h κ => avTup x fun b => F b h κ := by cases x <;> first | exact H _ | exact P0
theorem PSli (x : AV) {A : AH → Ka → Option Rs} {F : Nat → Nat → Nat → Nat → Nat → Bool → AH → Ka → Option Rs} {G : List AV → Nat → AH → Ka → Option Rs} (HA : PureF A) (H : ∀ b o l c z e, PureF (F b o l c z e)) (H' : ∀ b o, PureF (G b o)) :
    PureF fun h κ => avSli x (A h κ) (fun b o l c z e => F b o l c z e h κ) (fun c o => G c o h κ) := by
  cases x <;> first | exact H _ _ _ _ _ _ | exact H' _ _ | exact HA | exact P0
theorem PSome (x : AV) {A : AH → Ka → Option Rs} (HA : PureF A) : PureF fun h κ => avSome x (A h κ) := by cases x <;> first | exact HA | exact P0
theorem PV (v : Option AV) : PureF fun h κ => withV κ h v := Po v fun v => P1 v
theorem PPos (i : Int) {F : Nat → AH → Ka → Option Rs} (H : ∀ b, PureF (F b)) : PureF fun h κ => posN i fun b => F b h κ := by cases i <;> first | exact H _ | exact P0
theorem PinB (i : Int) (n : Nat) {F : Nat → AH → Ka → Option Rs} (H : ∀ b, PureF (F b)) : PureF fun h κ => inB i n fun b => F b h κ := PPos i fun m => Pb _ (H m) P0
theorem PBds (len cap : Nat) (lo hi mx : Option AV) {F : Nat → Nat → Nat → AH → Ka → Option Rs} (H : ∀ l u m, PureF (F l u m)) : PureF fun h κ => slBds len cap lo hi mx fun l u m => F l u m h κ :=
  Po _ fun l => Po _ fun u => Po _ fun m => Pb _ (H l u m) P0
theorem p_moveP (n : Nat) : PureF fun h κ => moveP n x h κ := PPtr x (fun _ _ => P1 _) fun _ _ => P1 _
theorem p_fld1 (o : Nat) : PureF fun h κ => fld1 o x h κ := PAgg x fun cs => PV _
theorem p_fldG (o n : Nat) : PureF fun h κ => fldG o n x h κ := PAgg x fun cs => Pb _ (P1 _) P0
theorem P_no : PureF (no.f C run σ T) := P0
theorem P_ty (t : Nat) {f : TI → OK} (H : ∀ ti, PureF ((f ti).f C run σ T)) : PureF ((tyK C t f).f C run σ T) := by
  unfold tyK
  split
  · exact H _
  · exact P_no
theorem P_bq (c : Bool) {k l : OK} (hk : PureF (k.f C run σ T)) (hl : PureF (l.f C run σ T)) : PureF ((bq c k l).f C run σ T) := by cases c <;> assumption
theorem P_nz (n : Nat) {k : OK} (hk : PureF (k.f C run σ T)) : PureF ((nz n k).f C run σ T) := P_bq _ P_no hk
theorem P_int (op : BinOp) (k : IntKind) (a b : Od) : PureF ((intOp op k a b).f C run σ T) := by
  cases op <;> first
    | exact PInt _ fun k a => PInt _ fun k' b => Pb _ (P1 _) P0
    | exact PInt _ fun k a => Pb _ (PInt _ fun k' b => Pb _ (P1 _) P0) P0
    | exact PInt _ fun k a => PInt _ fun k' b => PPos b fun s => Pb _ (P1 _) P0
theorem P_str (op : BinOp) (a b : Od) : PureF ((strOp op a b).f C run σ T) := by
  cases op <;> first | exact PStr _ fun _ => PStr _ fun _ => P1 _ | exact PStr _ fun _ => PStr _ fun _ => Pb _ (P1 _) P0 | exact P_no
theorem P_bin (op : BinOp) (ti : TI) (a b : Od) : PureF ((binK op ti a b).f C run σ T) := by
  unfold binK
  split
  · exact P_int _ _ _ _
  · exact P_str _ _ _
  · split
    · exact Po _ fun _ => P1 _
    · exact Po _ fun _ => P1 _
    · exact P_no
theorem P_un (op : UnOp) (ti : TI) (a : Od) : PureF ((unK op ti a).f C run σ T) := by
  unfold unK
  split
  · exact PInt _ fun _ n => P1 _
  · exact PBool _ fun _ => P1 _
  · exact PInt _ fun _ n => Pb _ (P1 _) P0
  · exact P_no
theorem P_guard (x : Od) (w : Bool) {k : OK} (hk : PureF (k.f C run σ T)) : PureF ((OK.mk (guardA x w k.f)).f C run σ T) := Po _ fun b => Pb b hk (P1 _)
theorem P_gd (ops : List Oper) (g : Option (Nat × Bool)) {k : OK} (hk : PureF (k.f C run σ T)) : PureF ((gdK ops ds g k).f C run σ T) := by
  unfold gdK
  split
  · exact hk
  · split
    · split
      · exact P_guard _ _ hk
      · exact P_no
    · exact P_no
end
noncomputable section
def kindIs (C : Cx) (t : Nat) (p : TK → Bool) : Bool :=
  match C.ty t with
  | some ti => p ti.kind
  | none => true
/-- What doesn't ask memory. -/
def pureB (C : Cx) : Op → Bool
  | .move _ | .assign _ | .pick .. | .nilCheck _ | .unOp .. | .extract .. | .fieldAddr .. | .field .. | .build .. | .binOp .. | .indexAddr .. | .index .. => true
  | .convert s d _ => kindIs C s fun k => match k with
    | .int _ => true
    | _ => false
  | .slice ty .. => kindIs C ty fun k => match k with
    | .array _ _ => false
    | _ => true
  | .call c => match c.callee with
    | .builtin .len => match c.argTypes.toList with
      | t :: _ => kindIs C t fun k => match k with
        | .map _ _ => false
        | _ => true
      | [] => true
    | .builtin .min | .builtin .max => true
    | _ => false
  | _ => false
/-- What asks memory and leaves it. -/
def readB (C : Cx) : Op → Bool
  | .load .. | .lookup .. => true
  | .convert _ d _ => kindIs C d fun k => match k with
    | .string => true
    | _ => false
  | _ => false
end
section
variable {C : Cx} {run : Run} {σ : List AV} {T : Tms} {ds : List (Option Nat)}
theorem P_op {o : Op} (hp : pureB C o = true) : PureF ((opK C ds o).f C run σ T) := by
  cases o <;> try (cases hp; done)
  case move x => exact P1 _
  case assign x => exact P1 _
  case pick c x y => exact PBool _ fun _ => P1 _
  case build t ps =>
    refine P_ty _ fun ti => ?_
    split
    · exact P_bq _ (Po _ fun _ => P1 _) P_no
    · exact P_ty _ fun ei => Po _ fun _ => P1 _
    · exact P_no
  case nilCheck x => exact PSome _ (P1 _)
  case binOp op t x y ty => exact P_ty _ fun ti => P_bin _ _ _ _
  case unOp op t x => exact P_ty _ fun ti => P_un _ _ _
  case convert s d x =>
    replace hp : kindIs C s (fun k => match k with | .int _ => true | _ => false) = true := hp
    unfold kindIs at hp
    show PureF ((tyK C s fun si => tyK C d fun di => convK C (Nat.beq s d) si di (od ds x)).f C run σ T)
    unfold tyK
    split
    · rename_i si hs
      rw [hs] at hp
      split
      · rename_i di hd
        show PureF ((convK C (Nat.beq s d) si di (od ds x)).f C run σ T)
        unfold convK
        split
        · exact PInt _ fun _ n => P1 _
        all_goals (rename_i k1 _; try rename_i k2; simp_all)
        all_goals exact P_no
      · exact P_no
    · exact P_no
  case slice t x lo hi mx =>
    replace hp : kindIs C t (fun k => match k with | .array _ _ => false | _ => true) = true := hp
    unfold kindIs at hp
    show PureF ((tyK C t fun ti => match ti.kind with
    | .string => match mx with
      | none => .mk (oSlT (od ds x) (lo.map (od ds)) (hi.map (od ds)))
      | some _ => no
    | .slice e => tyK C e fun ei => .mk (oSlS ei.size (od ds x) (lo.map (od ds)) (hi.map (od ds)) (mx.map (od ds)))
    | .array n e => match mx with
      | none => tyK C e fun ei => nz ei.size (.mk (oSlA n ei.size (od ds x) (lo.map (od ds)) (hi.map (od ds))))
      | some _ => no
    | _ => no).f C run σ T)
    unfold tyK
    split
    · rename_i ti ht
      rw [ht] at hp
      dsimp only at hp ⊢
      split
      · split
        · exact PStr _ fun s => Po _ fun l => Po _ fun u => Pb _ (P1 _) P0
        · exact P_no
      · exact P_ty _ fun ei => PSli _ (PBds _ _ _ _ _ fun _ _ _ => P1 _) (fun b o l c z e => PBds _ _ _ _ _ fun _ _ _ => Pb _ (Pb _ (P1 _) (P1 _)) P0) fun cs l => PBds _ _ _ _ _ fun _ _ _ => Pb _ (Pb _ (P1 _) (P1 _)) P0
      · rename_i hk
        rw [hk] at hp; cases hp
      · exact P_no
    · exact P_no
  case fieldAddr t x f =>
    show PureF ((match fieldOf C t f with | some (off, ui) => nz ui.size (OK.mk (o1 (moveP off) (od ds x))) | none => no).f C run σ T)
    split
    · exact P_nz _ (p_moveP _)
    · exact P_no
  case field t x f =>
    show PureF ((match fieldOf C t f with | some (off, ui) => bq ui.agg (OK.mk (o1 (fldG off ui.size) (od ds x))) (OK.mk (o1 (fld1 off) (od ds x))) | none => no).f C run σ T)
    split
    · exact P_bq _ (p_fldG _ _) (p_fld1 _)
    · exact P_no
  case indexAddr t x i =>
    refine P_ty _ fun ti => ?_
    split
    · exact P_ty _ fun ei => PInt _ fun _ i => PinB i _ fun m => p_moveP _
    · exact P_ty _ fun ei => PInt _ fun _ i => PSli _ P0 (fun b o l c z e => PinB i l fun m => Pb _ (P1 _) P0) fun cs l => PinB i l fun m => P1 _
    · exact P_no
  case index t x i =>
    refine P_ty _ fun ti => ?_
    split
    · exact P_ty _ fun ei => P_bq _ (PInt _ fun _ i => PinB i _ fun m => p_fldG _ _) (PInt _ fun _ i => PinB i _ fun m => p_fld1 _)
    · exact PStr _ fun l => PInt _ fun _ i => PPos i fun m => Po _ fun _ => P1 _
    · exact P_no
  case extract x i => exact PTup _ fun cs => PV _
  case call c =>
    replace hp : (match c.callee with
    | .builtin .len => match c.argTypes.toList with
      | t :: _ => kindIs C t fun k => match k with
        | .map _ _ => false
        | _ => true
      | [] => true
    | .builtin .min | .builtin .max => true
    | _ => false) = true := hp
    show PureF ((callK C c ds).f C run σ T)
    unfold callK
    split at hp
    · rename_i hc
      rw [hc]
      show PureF ((match c.args.toList, c.argTypes.toList with
        | [x], t :: _ => tyK C t fun ti => match ti.kind with
          | .string => .mk (o1 lenT (od ds x))
          | .slice _ => .mk (o1 lenS (od ds x))
          | .map _ _ => .mk (o1 lenM (od ds x))
          | .array n _ => .mk (oConst (.int 9223372036854775807 (.ofNat n)))
          | _ => no
        | _, _ => no).f C run σ T)
      split
      · rename_i x t r h1 h2
        rw [h2] at hp
        have hp : kindIs C t (fun k => match k with | .map _ _ => false | _ => true) = true := hp
        unfold kindIs at hp
        unfold tyK
        split
        · rename_i ti ht
          rw [ht] at hp
          dsimp only at hp ⊢
          split
          · exact PStr _ fun _ => P1 _
          · exact PSli _ (P1 _) (fun _ _ _ _ _ _ => P1 _) fun _ _ => P1 _
          · rename_i hk
            rw [hk] at hp; cases hp
          · exact P1 _
          · exact P_no
        · exact P_no
      · exact P_no
    · rename_i hc
      rw [hc]
      show PureF ((match c.args.toList with | [x, y] => OK.mk (o2 (minmax false) (od ds x) (od ds y)) | _ => no).f C run σ T)
      split
      · exact PInt _ fun k a => PInt _ fun k' b => Pb _ (P1 _) P0
      · exact P_no
    · rename_i hc
      rw [hc]
      show PureF ((match c.args.toList with | [x, y] => OK.mk (o2 (minmax true) (od ds x) (od ds y)) | _ => no).f C run σ T)
      split
      · exact PInt _ fun k a => PInt _ fun k' b => Pb _ (P1 _) P0
      · exact P_no
    · cases hp
end
section
variable {α : Type} {C : Cx} {run : Run} {σ : List AV} {T : Tms} {ds : List (Option Nat)} {x y : AV}
theorem M0 : MakeF fun _ _ => none := .inl fun _ _ => rfl
theorem M1 (g : Nat → AV) (B : Option Blk) : MakeF fun h κ => κ (g (flen h)) (fapp h [B]) := .inr (.inr ⟨g, B, fun _ _ => rfl⟩)
theorem Mb (c : Bool) {F G : AH → Ka → Option Rs} (hF : MakeF F) (hG : MakeF G) : MakeF fun h κ => bq c (F h κ) (G h κ) := by cases c <;> assumption
theorem Mo (o : Option α) {F : α → AH → Ka → Option Rs} (H : ∀ a, MakeF (F a)) : MakeF fun h κ => obind o fun a => F a h κ := by
  cases o with
  | none => exact M0
  | some a => exact H a
theorem MInt (x : AV) {F : Nat → Int → AH → Ka → Option Rs} (H : ∀ k n, MakeF (F k n)) : MakeF fun h κ => avInt x fun k n => F k n h κ := by cases x <;> first | exact H _ _ | exact M0
theorem MStr (x : AV) {F : List Nat → AH → Ka → Option Rs} (H : ∀ b, MakeF (F b)) : MakeF fun h κ => avStr x fun b => F b h κ := by cases x <;> first | exact H _ | exact M0
theorem MPos (i : Int) {F : Nat → AH → Ka → Option Rs} (H : ∀ b, MakeF (F b)) : MakeF fun h κ => posN i fun b => F b h κ := by cases i <;> first | exact H _ | exact M0
theorem M_no : MakeF (no.f C run σ T) := M0
theorem M_ty (t : Nat) {f : TI → OK} (H : ∀ ti, MakeF ((f ti).f C run σ T)) : MakeF ((tyK C t f).f C run σ T) := by
  unfold tyK
  split
  · exact H _
  · exact M_no
theorem M_bq (c : Bool) {k l : OK} (hk : MakeF (k.f C run σ T)) (hl : MakeF (l.f C run σ T)) : MakeF ((bq c k l).f C run σ T) := by cases c <;> assumption
theorem M_guard (x : Od) (w : Bool) {k : OK} (hk : MakeF (k.f C run σ T)) : MakeF ((OK.mk (guardA x w k.f)).f C run σ T) := Mo _ fun b => Mb b hk (.inr (.inl ⟨_, fun _ _ => rfl⟩))
theorem M_gd (ops : List Oper) (g : Option (Nat × Bool)) {k : OK} (hk : MakeF (k.f C run σ T)) : MakeF ((gdK ops ds g k).f C run σ T) := by
  unfold gdK
  split
  · exact hk
  · split
    · split
      · exact M_guard _ _ hk
      · exact M_no
    · exact M_no
theorem m_newA (B : Blk) : MakeF fun h κ => newA h B κ := M1 (fun n => .pto n 0) (some B)
theorem M_op {o : Op} (hm : mkB C o = true) : MakeF ((opK C ds o).f C run σ T) := by
  cases o <;> try (cases hm; done)
  case alloc el => exact M_ty _ fun ti => m_newA _
  case box el x => exact Mb _ (m_newA _) M0
  case buildSlice t n ps =>
    refine M_ty _ fun ti => ?_
    split
    · exact M_ty _ fun ei => M_bq _ M_no (Mb _ (Mo _ fun cs => M1 (fun k => .slo k 0 n n ei.size true) (some (mkBlk ei.size n cs 0))) M0)
    · exact M_no
  case convert s d x =>
    replace hm : strTo C s d = true := hm
    unfold strTo sliceTo at hm
    show MakeF ((tyK C s fun si => tyK C d fun di => convK C (Nat.beq s d) si di (od ds x)).f C run σ T)
    unfold tyK
    split
    · rename_i si hs
      rw [hs] at hm
      dsimp only at hm ⊢
      split
      · rename_i di hd
        rw [hd] at hm
        dsimp only at hm ⊢
        unfold convK
        split
        · rename_i k1 k2; rw [k1] at hm; cases hm
        · rename_i k1 k2; rw [k1, k2] at hm; cases hm
        · exact M_bq _ (MStr _ fun l => M1 (fun n => .slo n 0 (flen l) (flen l) 1 false) (some (.cells (intsOf l) 0))) M_no
        · rename_i k1 k2; rw [k1] at hm; cases hm
        · rename_i k1 k2; rw [k1] at hm; cases hm
        · exact M_no
      · exact M_no
    · exact M_no
  case makeMap t r => cases r <;> first | exact M1 (fun n => .mpo n) (some (.map [] [])) | exact M_no
  case makeSlice t l c =>
    refine M_ty _ fun ti => ?_
    split
    · refine M_ty _ fun ei => M_bq _ M_no (MInt _ fun k l => MInt _ fun k' c => MPos l fun l => MPos c fun c => Mb _ (M1 (fun n => .slo n 0 l c ei.size true) (some (bq (Nat.blt 64 ei.size) (.rows ei.size (frep c ei.zero) 0) (.cells (repA ei.zero c) 0)))) M0)
    · exact M_no
theorem R_op {o : Op} (hr : readB C o = true) : ReadF ((opK C ds o).f C run σ T) := by
  intro h
  have fin : ∀ F : Ka → Option Rs, ((∀ κ, F κ = none) ∨ ∃ v, ∀ κ, F κ = κ v h) → ((∀ κ, F κ = none) ∨ ∃ v, ∀ κ, F κ = κ v h) := fun _ x => x
  have rv : ∀ x : Option AV, (∀ κ : Ka, withV κ h x = none) ∨ ∃ v, ∀ κ : Ka, withV κ h x = κ v h := by
    intro x
    cases x with
    | none => exact .inl fun _ => rfl
    | some v => exact .inr ⟨v, fun _ => rfl⟩
  have rc : ∀ (c : Bool) (v : AV), (∀ κ : Ka, bq c (κ v h) none = none) ∨ ∃ v', ∀ κ : Ka, bq c (κ v h) none = κ v' h := by
    intro c v
    cases c with
    | false => exact .inl fun _ => rfl
    | true => exact .inr ⟨v, fun _ => rfl⟩
  have n0 : (∀ κ : Ka, (no.f C run σ T h) κ = none) ∨ ∃ v, ∀ κ : Ka, (no.f C run σ T h) κ = κ v h := .inl fun _ => rfl
  cases o <;> try (cases hr; done)
  case load t p =>
    show (∀ κ, (tyK C t fun ti => bq ti.agg (.mk (o1 (loadG ti.size) (od ds p))) (.mk (o1 load1 (od ds p)))).f C run σ T h κ = none) ∨ ∃ v, ∀ κ, (tyK C t fun ti => bq ti.agg (.mk (o1 (loadG ti.size) (od ds p))) (.mk (o1 load1 (od ds p)))).f C run σ T h κ = κ v h
    unfold tyK
    split
    · rename_i ti _
      dsimp only
      generalize hx : ev C σ T (od ds p) = x
      have hg : ∀ n, (∀ κ : Ka, loadG n x h κ = none) ∨ ∃ v, ∀ κ : Ka, loadG n x h κ = κ v h := by
        intro n
        cases x <;> try exact .inl fun _ => rfl
        · rename_i b o
          show (∀ κ : Ka, obind (hget h b) (fun B => blkR B (fun cs _ => ldGC n κ h o cs) fun z ll _ => ldGR n κ h o z ll) = none) ∨ ∃ v, ∀ κ : Ka, obind (hget h b) (fun B => blkR B (fun cs _ => ldGC n κ h o cs) fun z ll _ => ldGR n κ h o z ll) = κ v h
          cases hget h b with
          | none => exact .inl fun _ => rfl
          | some B => cases B with
            | cells cs y => exact rc (Nat.ble (Nat.add o n) (flen cs)) (partV cs o n)
            | map _ _ => exact .inl fun _ => rfl
            | rows z ll y =>
              show (∀ κ : Ka, obind (fget ll (Nat.div o z)) _ = none) ∨ ∃ v, ∀ κ : Ka, obind (fget ll (Nat.div o z)) _ = κ v h
              cases fget ll (Nat.div o z) with
              | none => exact .inl fun _ => rfl
              | some l =>
                show (∀ κ : Ka, bq (and (Nat.beq (Nat.mod o z) 0) (Nat.beq n z)) _ _ = none) ∨ ∃ v, ∀ κ : Ka, bq (and (Nat.beq (Nat.mod o z) 0) (Nat.beq n z)) _ _ = κ v h
                cases and (Nat.beq (Nat.mod o z) 0) (Nat.beq n z) with
                | true => exact .inr ⟨_, fun _ => rfl⟩
                | false => exact rc (Nat.ble (Nat.add (Nat.mod o z) n) z) (partV l (Nat.mod o z) n)
        · rename_i cs o
          exact rc (Nat.ble (Nat.add o n) (flen cs)) (partV cs o n)
      have h1 : (∀ κ : Ka, load1 x h κ = none) ∨ ∃ v, ∀ κ : Ka, load1 x h κ = κ v h := by
        cases x <;> try exact .inl fun _ => rfl
        · rename_i b o
          show (∀ κ : Ka, obind (hget h b) (fun B => blkR B (fun cs _ => ld1C κ h o cs) fun z ll _ => ld1R κ h o z ll) = none) ∨ ∃ v, ∀ κ : Ka, obind (hget h b) (fun B => blkR B (fun cs _ => ld1C κ h o cs) fun z ll _ => ld1R κ h o z ll) = κ v h
          cases hget h b with
          | none => exact .inl fun _ => rfl
          | some B => cases B with
            | cells cs y => exact rv _
            | map _ _ => exact .inl fun _ => rfl
            | rows z ll y =>
              show (∀ κ : Ka, obind (fget ll (Nat.div o z)) _ = none) ∨ ∃ v, ∀ κ : Ka, obind (fget ll (Nat.div o z)) _ = κ v h
              cases fget ll (Nat.div o z) with
              | none => exact .inl fun _ => rfl
              | some l => exact rv _
        · exact rv _
      cases ti.agg with
      | true =>
        show (∀ κ : Ka, loadG ti.size (ev C σ T (od ds p)) h κ = none) ∨ ∃ v, ∀ κ : Ka, loadG ti.size (ev C σ T (od ds p)) h κ = κ v h
        rw [hx]; exact hg _
      | false =>
        show (∀ κ : Ka, load1 (ev C σ T (od ds p)) h κ = none) ∨ ∃ v, ∀ κ : Ka, load1 (ev C σ T (od ds p)) h κ = κ v h
        rw [hx]; exact h1
    · exact n0
  case convert s d x =>
    replace hr : kindIs C d (fun k => match k with | .string => true | _ => false) = true := hr
    unfold kindIs at hr
    show (∀ κ, (tyK C s fun si => tyK C d fun di => convK C (Nat.beq s d) si di (od ds x)).f C run σ T h κ = none) ∨ ∃ v, ∀ κ, (tyK C s fun si => tyK C d fun di => convK C (Nat.beq s d) si di (od ds x)).f C run σ T h κ = κ v h
    have fb : ∀ x : AV, (∀ κ : Ka, bytesStr x h κ = none) ∨ ∃ v, ∀ κ : Ka, bytesStr x h κ = κ v h := by
      intro x
      unfold bytesStr
      cases lenA x with
      | none => exact .inl fun _ => rfl
      | some n =>
        show (∀ κ : Ka, obind (elemsA h 1 n x) _ = none) ∨ ∃ v, ∀ κ : Ka, obind (elemsA h 1 n x) _ = κ v h
        cases elemsA h 1 n x with
        | none => exact .inl fun _ => rfl
        | some l =>
          show (∀ κ : Ka, obind (bytesOf l) _ = none) ∨ ∃ v, ∀ κ : Ka, obind (bytesOf l) _ = κ v h
          cases bytesOf l with
          | none => exact .inl fun _ => rfl
          | some b => cases x <;> first | exact .inl fun _ => rfl | exact .inr ⟨.str b, fun _ => rfl⟩
    have fs : ∀ x : AV, (∀ κ : Ka, strId x h κ = none) ∨ ∃ v, ∀ κ : Ka, strId x h κ = κ v h := by
      intro x
      cases x <;> first | exact .inl fun _ => rfl | exact .inr ⟨_, fun _ => rfl⟩
    unfold tyK
    split
    · rename_i si hs
      dsimp only
      split
      · rename_i di hd
        rw [hd] at hr
        dsimp only at hr
        show (∀ κ, (convK C (Nat.beq s d) si di (od ds x)).f C run σ T h κ = none) ∨ ∃ v, ∀ κ, (convK C (Nat.beq s d) si di (od ds x)).f C run σ T h κ = κ v h
        unfold convK
        split
        · rename_i k1 k2; rw [k2] at hr; cases hr
        · exact fs _
        · rename_i k1 k2; rw [k2] at hr; cases hr
        · cases isU8 C _ with
          | true => exact fb _
          | false => exact n0
        · rename_i k1 k2; rw [k2] at hr; cases hr
        · exact n0
      · exact n0
    · exact n0
  case lookup t x i cok =>
    show (∀ κ, (tyK C t fun ti => match ti.kind with | .map kt et => tyK C kt fun ki => tyK C et fun ei => .mk (o2 (lookA ki ei cok) (od ds x) (od ds i)) | _ => no).f C run σ T h κ = none) ∨ ∃ v, ∀ κ, (tyK C t fun ti => match ti.kind with | .map kt et => tyK C kt fun ki => tyK C et fun ei => .mk (o2 (lookA ki ei cok) (od ds x) (od ds i)) | _ => no).f C run σ T h κ = κ v h
    have lk : ∀ (ki ei : TI) (x y : AV), (∀ κ : Ka, lookA ki ei cok x y h κ = none) ∨ ∃ v, ∀ κ : Ka, lookA ki ei cok x y h κ = κ v h := by
      intro ki ei x y
      unfold lookA
      cases mapOf h x with
      | none => exact .inl fun _ => rfl
      | some p =>
        show (∀ κ : Ka, bq (keyOk ki y) (obind (findA y p.1) fun i => withV κ h (lookV ei p.2 cok i)) none = none) ∨ ∃ v, ∀ κ : Ka, bq (keyOk ki y) (obind (findA y p.1) fun i => withV κ h (lookV ei p.2 cok i)) none = κ v h
        cases keyOk ki y with
        | false => exact .inl fun _ => rfl
        | true =>
          cases findA y p.1 with
          | none => exact .inl fun _ => rfl
          | some i => exact rv _
    unfold tyK
    split
    · dsimp only
      split
      · split
        · split
          · exact lk _ _ _ _
          · exact n0
        · exact n0
      · exact n0
    · exact n0
theorem R_gd (ops : List Oper) (g : Option (Nat × Bool)) {k : OK} (hk : ReadF (k.f C run σ T)) : ReadF ((gdK ops ds g k).f C run σ T) := by
  intro h
  unfold gdK
  split
  · exact hk h
  · split
    · split
      · rename_i d _
        show (∀ κ, obind (wantB (ev C σ T (od ds (.tmp d))) _) (guardB k.f C run σ T h κ) = none) ∨ ∃ v, ∀ κ, obind (wantB (ev C σ T (od ds (.tmp d))) _) (guardB k.f C run σ T h κ) = κ v h
        cases wantB (ev C σ T (od ds (.tmp d))) _ with
        | none => exact .inl fun _ => rfl
        | some b => cases b with
          | true => exact hk h
          | false => exact .inr ⟨_, fun _ => rfl⟩
      · exact .inl fun _ => rfl
    · exact .inl fun _ => rfl
end
noncomputable section
/-- An operation, and a question behind it. -/
def ltK (o : OK) : OK := .mk fun C run σ t h κ => o.f C run σ t h fun v h' => bq (AV.lt (flen h) v) (κ v h') none
def leK (o : OK) : OK := .mk fun C run σ t h κ => o.f C run σ t h fun v h' => bq (Nat.ble (flen h) (flen h')) (κ v h') none
def wrap1 (ks : List Nat) (j : Nat) (d : DOp) : OK := bq d.ef (leK d.op) (bq (gcIn j ks) (ltK d.op) d.op)
def wrapD (ks : List Nat) (D : List DOp) : Nat → List OK := List.rec (motive := fun _ => Nat → List OK) (fun _ => []) (fun d _ ih j => wrap1 ks j d :: ih (Nat.succ j)) D
def isE (l : List Nat) : Bool := List.rec (motive := fun _ => Bool) true (fun _ _ _ => false) l
/-- Does each order of such a region do what the text's does? -/
def plainB (C : Cx) (ops : Array Oper) : Bool :=
  let l := ops.toList
  let b := befs l
  ((List.range l.length).all fun j => mkB C (l.getD j default).op || (effB C (l.getD j default).op && isE (hideOf C l b j)) || (!effB C (l.getD j default).op && (pureB C (l.getD j default).op || (readB C (l.getD j default).op && isE (hideOf C l b j))))) &&
  (drawPl C ops).all fun p => Nat.blt p.1 l.length && Nat.blt p.2 l.length && (pureB C (l.getD p.1 default).op && !mkB C (l.getD p.1 default).op && !effB C (l.getD p.1 default).op)
end
structure PlainD (C : Cx) (run : Run) (T : Tms) (D : List DOp) (pl : List (Nat × Nat)) : Prop where
  nat : ∀ d ∈ D, ∀ σ h, NatF (d.op.f C run σ T h)
  mkr : ∀ d ∈ D, d.nw = true → d.ef = false ∧ ∀ σ, MakeF (d.op.f C run σ T)
  ef : ∀ d ∈ D, d.nw = false → d.ef = true → d.hide = []
  rd : ∀ d ∈ D, d.nw = false → d.ef = false → (∀ σ, PureF (d.op.f C run σ T)) ∨ (d.hide = [] ∧ ∀ σ, ReadF (d.op.f C run σ T))
  pl : ∀ p ∈ pl, ∃ d, D[p.1]? = some d ∧ p.2 < D.length ∧ d.nw = false ∧ d.ef = false ∧ ∀ σ, PureF (d.op.f C run σ T)
theorem gcIn_mem {b : Nat} : ∀ {ks : List Nat}, gcIn b ks = true ↔ b ∈ ks
  | [] => by constructor <;> intro h <;> cases h
  | a :: r => by
    have ih := @gcIn_mem b r
    show bq (Nat.beq a b) true (gcIn b r) = true ↔ _
    rw [nbeq]
    by_cases e : a = b
    · rw [decide_eq_true e]; simp [e, bq_true]
    · rw [decide_eq_false e, bq_false, ih]; simp [Ne.symm e]
theorem isE_nil {l : List Nat} (h : isE l = true) : l = [] := by
  cases l with
  | nil => rfl
  | cons a r => cases h
/-- A trace goes on as it began. -/
theorem trace_pre {C : Cx} {run : Run} {T : Tms} : ∀ (l : List DOp) {tr tr' : List Tr} {σ σ' : List AV} {h h' : AH}, traceA C run T l tr σ h = some (tr', σ', h') → ∃ m, tr' = tr ++ m ∧ m.length = l.length
  | [], tr, tr', σ, σ', h, h', e => by cases e; exact ⟨[], by simp, rfl⟩
  | d :: l, tr, tr', σ, σ', h, h', e => by
    obtain ⟨r, e1, e2⟩ := obind_eq_some (show obind (stepD C run T d tr σ h) (fun r => traceA C run T l (fapp tr [r]) (r.v :: σ) r.h') = some (tr', σ', h') from e)
    obtain ⟨m, rfl, hm⟩ := trace_pre l e2
    exact ⟨r :: m, by rw [fapp_eq]; simp, by simp [hm]⟩
section
variable {C : Cx} {run : Run} {T : Tms}
/-- The end of a trace. -/
noncomputable def tailA (C : Cx) (run : Run) (fl : List (Nat × Nat)) (T : Tms) (D : List DOp) (pl : List (Nat × Nat)) (x : List Tr × List AV × AH) : Option Rs := bq (allB (pairA C run T D x.1) pl) (some (.st (flushA x.2.1 T fl) x.2.2)) none
theorem plain_go {fl pl : List (Nat × Nat)} {D : List DOp} (H : PlainD C run T D pl) : ∀ (l done : List DOp) (tr : List Tr) (σ : List AV) (h : AH), D = done ++ l → tr.length = done.length →
    (∀ (i : Nat) (d : DOp) (r : Tr), D[i]? = some d → tr[i]? = some r → i ∈ pl.map (·.1) → AV.lt (flen r.h) r.v = true ∧ ∀ h2, vhO (d.op.f C run r.σ T h2 kVH) = some (r.v, h2)) →
    obind (traceA C run T l tr σ h) (tailA C run fl T D pl) = opsA C run fl T (wrapD (pl.map (·.1)) l tr.length) σ h := by
  intro l
  induction l with
  | nil =>
    intro done tr σ h hD hl hi
    show tailA C run fl T D pl (tr, σ, h) = some (.st (flushA σ T fl) h)
    unfold tailA
    have : allB (pairA C run T D tr) pl = true := allB_iff.2 fun p hp => by
      obtain ⟨d, h1, h2, _, _, _⟩ := H.pl p hp
      have hDl : D.length = tr.length := by rw [hD, hl]; simp
      have l1 : p.1 < tr.length := by rw [← hDl]; exact (List.getElem?_eq_some_iff.1 h1).1
      have a2 : tr[p.1]? = some tr[p.1] := List.getElem?_eq_getElem l1
      have a3 : tr[p.2]? = some (tr[p.2]'(by omega)) := List.getElem?_eq_getElem (by omega)
      obtain ⟨c1, c2⟩ := hi _ _ _ h1 a2 (List.mem_map.2 ⟨p, hp, rfl⟩)
      unfold pairA
      rw [fget_eq, fget_eq, fget_eq, h1, a2, a3]
      show and (AV.lt (flen (tr[p.1]).h) (tr[p.1]).v) (isV (tr[p.1]).v (vhO (d.op.f C run (tr[p.1]).σ T _ kVH))) = true
      rw [c1, c2]
      show AV.same _ _ = true
      exact same_refl _
    rw [this]; rfl
  | cons d l ih =>
    intro done tr σ h hD hl hi
    have hd : d ∈ D := by rw [hD]; simp
    have hDj : D[tr.length]? = some d := by rw [hD, hl]; simp
    have hnj : ∀ p ∈ pl, p.1 = tr.length → d.nw = false ∧ d.ef = false ∧ ∀ σ, PureF (d.op.f C run σ T) := fun p hp e => by
      obtain ⟨d', h1, _, h3⟩ := H.pl p hp
      rw [e, hDj] at h1
      cases h1
      exact h3
    have go : ∀ (v : AV) (h' : AH), stepD C run T d tr σ h = some ⟨σ, h, v, h'⟩ → (tr.length ∈ pl.map (·.1) → AV.lt (flen h) v = true ∧ ∀ h2, vhO (d.op.f C run σ T h2 kVH) = some (v, h2)) →
        obind (traceA C run T (d :: l) tr σ h) (tailA C run fl T D pl) = opsA C run fl T (wrapD (pl.map (·.1)) l (tr.length + 1)) (v :: σ) h' := fun v h' e hv => by
      show obind (obind (stepD C run T d tr σ h) fun r => traceA C run T l (fapp tr [r]) (r.v :: σ) r.h') _ = _
      rw [e, obind_some, fapp_eq]
      have := ih (done ++ [d]) (tr ++ [⟨σ, h, v, h'⟩]) (v :: σ) h' (by rw [hD]; simp) (by simp [hl]) (fun i q r h1 h2 h3 => by
        rcases Nat.lt_trichotomy i tr.length with hlt | rfl | hgt
        · rw [List.getElem?_append_left hlt] at h2
          exact hi i q r h1 h2 h3
        · rw [hDj] at h1
          rw [List.getElem?_append_right (Nat.le_refl _), Nat.sub_self] at h2
          cases h1; cases h2
          exact hv h3
        · rw [List.getElem?_eq_none (by simp; omega)] at h2; cases h2)
      rw [List.length_append] at this
      exact this
    have gn : stepD C run T d tr σ h = none → obind (traceA C run T (d :: l) tr σ h) (tailA C run fl T D pl) = none := fun e => by
      show obind (obind (stepD C run T d tr σ h) fun r => traceA C run T l (fapp tr [r]) (r.v :: σ) r.h') _ = _
      rw [e]; rfl
    have rhs : opsA C run fl T (wrapD (pl.map (·.1)) (d :: l) tr.length) σ h = (wrap1 (pl.map (·.1)) tr.length d).f C run σ T h fun v => opsA C run fl T (wrapD (pl.map (·.1)) l (tr.length + 1)) (v :: σ) := by
      show opsA C run fl T (wrap1 (pl.map (·.1)) tr.length d :: wrapD (pl.map (·.1)) l (tr.length + 1)) σ h = _
      generalize wrap1 (pl.map (·.1)) tr.length d = w
      cases w
      rfl
    rw [rhs]
    have hidE : hidN tr [] = [] := rfl
    cases hw : d.nw with
    | true =>
      obtain ⟨he, hm⟩ := H.mkr d hd hw
      have hin : gcIn tr.length (pl.map (·.1)) = false := by
        rw [Bool.eq_false_iff]
        intro c
        obtain ⟨p, hp, e⟩ := List.mem_map.1 (gcIn_mem.1 c)
        have := (hnj p hp e).1
        rw [hw] at this; cases this
      have hni : tr.length ∈ pl.map (·.1) → False := fun c => by rw [gcIn_mem.2 c] at hin; cases hin
      have hwr : wrap1 (pl.map (·.1)) tr.length d = d.op := by unfold wrap1; rw [he, hin]; rfl
      rw [hwr]
      have hsd : stepD C run T d tr σ h = obind (vhO (d.op.f C run σ T (frep (flen h) none) kVH)) fun x => bq (and (Nat.ble (flen h) (flen x.2)) (Nat.ble (flen x.2) (Nat.succ (flen h)))) (some ⟨σ, h, x.1, fapp h (fdrop (flen h) x.2)⟩) none := by
        unfold stepD; rw [hw]; rfl
      have lb : flen (frep (α := Option Blk) (flen h) none) = flen h := by rw [frep_eq, flen_eq, List.length_replicate]
      rcases hm σ with hm | ⟨v, hm⟩ | ⟨g, B, hm⟩
      · rw [hm, gn]
        rw [hsd, hm]; rfl
      · rw [hm, go v h _ (fun c => (hni c).elim)]
        rw [hsd, hm]
        show bq (and (Nat.ble (flen h) (flen (frep (flen h) none))) (Nat.ble (flen (frep (flen h) none)) (Nat.succ (flen h)))) (some (⟨σ, h, v, fapp h (fdrop (flen h) (frep (flen h) none))⟩ : Tr)) none = _
        rw [lb, nble, nble, decide_eq_true (Nat.le_refl _), decide_eq_true (Nat.le_succ _), fdrop_eq, fapp_eq, List.drop_eq_nil_of_le (by rw [← flen_eq, lb]; exact Nat.le_refl _), List.append_nil]
        rfl
      · rw [hm, go (g (flen h)) (fapp h [B]) _ (fun c => (hni c).elim)]
        rw [hsd, hm]
        show bq (and (Nat.ble (flen h) (flen (fapp (frep (flen h) none) [B]))) (Nat.ble (flen (fapp (frep (flen h) none) [B])) (Nat.succ (flen h)))) (some (⟨σ, h, g (flen (frep (α := Option Blk) (flen h) none)), fapp h (fdrop (flen h) (fapp (frep (flen h) none) [B]))⟩ : Tr)) none = _
        have l2 : flen (fapp (frep (flen h) none) [B]) = flen h + 1 := by rw [fapp_eq, flen_eq, List.length_append, ← flen_eq, lb]; rfl
        have l3 : fdrop (flen h) (fapp (frep (α := Option Blk) (flen h) none) [B]) = [B] := by
          rw [fdrop_eq, fapp_eq, List.drop_append_of_le_length (by rw [← flen_eq, lb]; exact Nat.le_refl _), List.drop_eq_nil_of_le (by rw [← flen_eq, lb]; exact Nat.le_refl _), List.nil_append]
        rw [l2, lb, nble, nble, decide_eq_true (Nat.le_succ _), decide_eq_true (Nat.le_refl _), l3]
        rfl
    | false =>
      cases he : d.ef with
      | true =>
        have hh := H.ef d hd hw he
        have hin : tr.length ∈ pl.map (·.1) → False := fun c => by
          obtain ⟨p, hp, e⟩ := List.mem_map.1 c
          have := (hnj p hp e).2.1
          rw [he] at this; cases this
        have hwr : wrap1 (pl.map (·.1)) tr.length d = leK d.op := by unfold wrap1; rw [he]; rfl
        have hsd : stepD C run T d tr σ h = obind (vhO (d.op.f C run σ T h kVH)) fun x => bq (Nat.ble (flen h) (flen x.2)) (some ⟨σ, h, x.1, x.2⟩) none := by
          unfold stepD; rw [hw, hh, he, bq_false]; rfl
        rw [hwr]
        show _ = d.op.f C run σ T h fun v h' => bq (Nat.ble (flen h) (flen h')) (opsA C run fl T (wrapD (pl.map (·.1)) l (tr.length + 1)) (v :: σ) h') none
        rcases H.nat d hd σ h with hn | ⟨v, h', hn⟩
        · rw [hn, gn]
          rw [hsd, hn]; rfl
        · rw [hn]
          have hsd : stepD C run T d tr σ h = bq (Nat.ble (flen h) (flen h')) (some ⟨σ, h, v, h'⟩) none := by rw [hsd, hn]; rfl
          cases hb : Nat.ble (flen h) (flen h') with
          | true => rw [bq_true, go v h' (by rw [hsd, hb]; rfl) (fun c => (hin c).elim)]
          | false => rw [bq_false, gn (by rw [hsd, hb]; rfl)]
      | false =>
        have hsd : ∀ v, (∃ F : AH → Ka → Option Rs, F = d.op.f C run σ T) → vhO (d.op.f C run σ T (blot (hidN tr d.hide) h) kVH) = some v → stepD C run T d tr σ h = some ⟨σ, h, v.1, h⟩ := fun v _ e => by
          unfold stepD; rw [hw, bq_false]
          show obind (vhO (d.op.f C run σ T (blot (hidN tr d.hide) h) kVH)) _ = _
          rw [e, he]; rfl
        have hsn : vhO (d.op.f C run σ T (blot (hidN tr d.hide) h) kVH) = none → stepD C run T d tr σ h = none := fun e => by
          unfold stepD; rw [hw, bq_false]
          show obind (vhO (d.op.f C run σ T (blot (hidN tr d.hide) h) kVH)) _ = _
          rw [e]; rfl
        have main : ∀ v : AV, (∀ κ, d.op.f C run σ T h κ = κ v h) → stepD C run T d tr σ h = some ⟨σ, h, v, h⟩ → (tr.length ∈ pl.map (·.1) → ∀ h2, vhO (d.op.f C run σ T h2 kVH) = some (v, h2)) →
            obind (traceA C run T (d :: l) tr σ h) (tailA C run fl T D pl) = (wrap1 (pl.map (·.1)) tr.length d).f C run σ T h fun v => opsA C run fl T (wrapD (pl.map (·.1)) l (tr.length + 1)) (v :: σ) := fun v hv hs hp => by
          cases hin : gcIn tr.length (pl.map (·.1)) with
          | false =>
            have hni : tr.length ∈ pl.map (·.1) → False := fun c => by rw [gcIn_mem.2 c] at hin; cases hin
            have hwr : wrap1 (pl.map (·.1)) tr.length d = d.op := by unfold wrap1; rw [he, hin]; rfl
            rw [hwr, hv, go v h hs (fun c => (hni c).elim)]
          | true =>
            have hwr : wrap1 (pl.map (·.1)) tr.length d = ltK d.op := by unfold wrap1; rw [he, hin]; rfl
            rw [hwr]
            show _ = d.op.f C run σ T h fun v h' => bq (AV.lt (flen h) v) (opsA C run fl T (wrapD (pl.map (·.1)) l (tr.length + 1)) (v :: σ) h') none
            rw [hv]
            cases hlt : AV.lt (flen h) v with
            | true => rw [bq_true, go v h hs (fun c => ⟨hlt, hp c⟩)]
            | false =>
              rw [bq_false]
              show obind (obind (stepD C run T d tr σ h) fun r => traceA C run T l (fapp tr [r]) (r.v :: σ) r.h') _ = none
              rw [hs, obind_some, fapp_eq]
              cases ht : traceA C run T l (tr ++ [⟨σ, h, v, h⟩]) (v :: σ) h with
              | none => rfl
              | some x =>
                obtain ⟨tr', σ', h'⟩ := x
                obtain ⟨m, rfl, hm⟩ := trace_pre l ht
                obtain ⟨p, hp1, hp2⟩ := List.mem_map.1 (gcIn_mem.1 hin)
                show tailA C run fl T D pl (_, σ', h') = none
                unfold tailA
                have : allB (pairA C run T D (tr ++ [⟨σ, h, v, h⟩] ++ m)) pl = false := by
                  rw [Bool.eq_false_iff]
                  intro c
                  have := allB_iff.1 c p hp1
                  unfold pairA at this
                  have a1 : (tr ++ [⟨σ, h, v, h⟩] ++ m)[p.1]? = some ⟨σ, h, v, h⟩ := by
                    have hp2 : p.1 = tr.length := hp2
                    rw [hp2, List.append_assoc, List.getElem?_append_right (Nat.le_refl _), Nat.sub_self]; rfl
                  have a2 : D[p.1]? = some d := by
                    have hp2 : p.1 = tr.length := hp2
                    rw [hp2]; exact hDj
                  rw [fget_eq, fget_eq, fget_eq, a1, a2] at this
                  split at this
                  · rename_i o r e h1 h2 h3
                    cases h2
                    rw [show AV.lt (flen h) v = false from hlt] at this
                    cases this
                  · cases this
                rw [this]; rfl
        rcases H.rd d hd hw he with hp | ⟨hh, hr⟩
        · rcases hp σ with hp | ⟨v, hp⟩
          · rw [gn (hsn (by rw [hp]; rfl))]
            have hz : ∀ o : OK, (∀ κ, o.f C run σ T h κ = none) → ∀ κ, (bq (gcIn tr.length (pl.map (·.1))) (ltK o) o).f C run σ T h κ = none := fun o ho κ => by
              cases gcIn tr.length (pl.map (·.1)) with
              | true => exact ho _
              | false => exact ho _
            unfold wrap1
            rw [he, bq_false]
            exact (hz d.op (hp h) _).symm
          · exact main v (hp h) (hsd (v, _) ⟨_, rfl⟩ (by rw [hp]; rfl)) (fun _ h2 => by rw [hp]; rfl)
        · have hb : blot (hidN tr d.hide) h = h := by rw [hh]; rfl
          rcases hr σ h with hp | ⟨v, hp⟩
          · rw [gn (hsn (by rw [hb, hp]; rfl))]
            have hz : ∀ o : OK, (∀ κ, o.f C run σ T h κ = none) → ∀ κ, (bq (gcIn tr.length (pl.map (·.1))) (ltK o) o).f C run σ T h κ = none := fun o ho κ => by
              cases gcIn tr.length (pl.map (·.1)) with
              | true => exact ho _
              | false => exact ho _
            unfold wrap1
            rw [he, bq_false]
            exact (hz d.op hp _).symm
          · refine main v hp (hsd (v, _) ⟨_, rfl⟩ (by rw [hb, hp]; rfl)) (fun c h2 => ?_)
            obtain ⟨p, hp1, hp2⟩ := List.mem_map.1 c
            rcases (hnj p hp1 hp2).2.2 σ with q | ⟨v', q⟩
            · have := hp kVH
              rw [q] at this; cases this
            · have e1 := hp kVH
              rw [q] at e1
              cases e1
              rw [q]; rfl
theorem wrap1_nat {C : Cx} {d : DOp} (hd : NatO' C d.op) (ks : List Nat) (j : Nat) : NatO' C (wrap1 ks j d) := by
  intro run σ T h
  unfold wrap1
  have a : NatF ((leK d.op).f C run σ T h) := by
    rcases hd run σ T h with hn | ⟨v, h', hn⟩
    · exact .inl fun κ => hn _
    · have e : ∀ κ : Ka, (leK d.op).f C run σ T h κ = bq (Nat.ble (flen h) (flen h')) (κ v h') none := fun κ => hn _
      cases hb : Nat.ble (flen h) (flen h') with
      | true => exact .inr ⟨v, h', fun κ => by rw [e, hb]; rfl⟩
      | false => exact .inl fun κ => by rw [e, hb]; rfl
  have b : NatF ((ltK d.op).f C run σ T h) := by
    rcases hd run σ T h with hn | ⟨v, h', hn⟩
    · exact .inl fun κ => hn _
    · have e : ∀ κ : Ka, (ltK d.op).f C run σ T h κ = bq (AV.lt (flen h) v) (κ v h') none := fun κ => hn _
      cases hb : AV.lt (flen h) v with
      | true => exact .inr ⟨v, h', fun κ => by rw [e, hb]; rfl⟩
      | false => exact .inl fun κ => by rw [e, hb]; rfl
  cases d.ef with
  | true => exact a
  | false =>
    cases gcIn j ks with
    | true => exact b
    | false => exact hd run σ T h
theorem wrapD_nat {C : Cx} (ks : List Nat) : ∀ (D : List DOp) (j : Nat), (∀ d ∈ D, NatO' C d.op) → ∀ o ∈ wrapD ks D j, NatO' C o
  | [], _, _, o, ho => by cases ho
  | d :: D, j, hd, o, ho => by
    have ho : o ∈ wrap1 ks j d :: wrapD ks D (Nat.succ j) := ho
    rcases List.mem_cons.1 ho with rfl | ho
    · exact wrap1_nat (hd d (List.mem_cons_self ..)) ks j
    · exact wrapD_nat ks D _ (fun d h => hd d (List.mem_cons_of_mem _ h)) o ho
theorem plainB_ok {C : Cx} {ops : Array Oper} (hb : plainB C ops = true) (run : Run) (T : Tms) : PlainD C run T (compD C ops.toList (befs ops.toList) 0 (compL C ops.toList [] ops.toList)) (drawPl C ops) := by
  unfold plainB at hb
  simp only [Bool.and_eq_true] at hb
  obtain ⟨h1, h2⟩ := hb
  have get : ∀ {j : Nat} {d : DOp}, (compD C ops.toList (befs ops.toList) 0 (compL C ops.toList [] ops.toList))[j]? = some d → ∃ o ds, ops.toList[j]? = some o ∧ d = ⟨compO C ops.toList ds o, hideOf C ops.toList (befs ops.toList) j, mkB C o.op, effB C o.op⟩ ∧ ops.toList.getD j default = o := by
    intro j d hd
    rw [compD_get, compL_get] at hd
    cases ho : ops.toList[j]? with
    | none => rw [ho] at hd; simp at hd
    | some o =>
      rw [ho] at hd
      simp only [Option.map_some, Option.some.injEq, Nat.zero_add] at hd
      have e : ops.toList.getD j default = o := by rw [List.getD_eq_getElem?_getD, ho]; rfl
      rw [e] at hd
      exact ⟨o, _, rfl, hd.symm, e⟩
  have mem : ∀ {d : DOp}, d ∈ compD C ops.toList (befs ops.toList) 0 (compL C ops.toList [] ops.toList) → ∃ j o ds, ops.toList[j]? = some o ∧ d = ⟨compO C ops.toList ds o, hideOf C ops.toList (befs ops.toList) j, mkB C o.op, effB C o.op⟩ ∧ ops.toList.getD j default = o := by
    intro d hd
    obtain ⟨j, hj⟩ := List.getElem?_of_mem hd
    exact ⟨j, get hj⟩
  have at1 : ∀ {j : Nat} {o : Oper}, ops.toList[j]? = some o → ops.toList.getD j default = o → (mkB C o.op || (effB C o.op && isE (hideOf C ops.toList (befs ops.toList) j)) || (!effB C o.op && (pureB C o.op || (readB C o.op && isE (hideOf C ops.toList (befs ops.toList) j))))) = true := by
    intro j o ho e
    have := List.all_eq_true.1 h1 j (List.mem_range.2 (List.getElem?_eq_some_iff.1 ho).1)
    rw [e] at this
    exact this
  constructor
  · intro d hd σ h
    obtain ⟨j, o, ds, _, rfl, _⟩ := mem hd
    exact N_gd _ _ (N_op _)
  · intro d hd hw
    obtain ⟨j, o, ds, _, rfl, _⟩ := mem hd
    exact ⟨mk_eff hw, fun σ => M_gd _ _ (M_op hw)⟩
  · intro d hd hw he
    obtain ⟨j, o, ds, ho, rfl, e⟩ := mem hd
    have := at1 ho e
    rw [show mkB C o.op = false from hw, show effB C o.op = true from he] at this
    simp at this
    exact isE_nil this
  · intro d hd hw he
    obtain ⟨j, o, ds, ho, rfl, e⟩ := mem hd
    have := at1 ho e
    rw [show mkB C o.op = false from hw, show effB C o.op = false from he] at this
    simp at this
    rcases this with hp | ⟨hr, hh⟩
    · exact .inl fun σ => P_gd _ _ (P_op hp)
    · exact .inr ⟨isE_nil hh, fun σ => R_gd _ _ (R_op hr)⟩
  · intro p hp
    have := List.all_eq_true.1 h2 p hp
    simp only [Bool.and_eq_true, Bool.not_eq_true'] at this
    obtain ⟨⟨l1, l2⟩, ⟨q1, q2⟩, q3⟩ := this
    rw [nblt, decide_eq_true_iff] at l1 l2
    have hlen : (compD C ops.toList (befs ops.toList) 0 (compL C ops.toList [] ops.toList)).length = ops.toList.length := by
      apply Nat.le_antisymm
      · apply Nat.le_of_not_lt
        intro c
        have hd := List.getElem?_eq_getElem c
        obtain ⟨o, ds, ho, _⟩ := get hd
        rw [List.getElem?_eq_none (Nat.le_refl _)] at ho; cases ho
      · apply Nat.le_of_not_lt
        intro c
        have := compD_get (C := C) ops.toList (befs ops.toList) (compL C ops.toList [] ops.toList) 0 (compD C ops.toList (befs ops.toList) 0 (compL C ops.toList [] ops.toList)).length
        rw [List.getElem?_eq_none (Nat.le_refl _), compL_get, List.getElem?_eq_getElem c] at this
        simp at this
    have hd := List.getElem?_eq_getElem (show p.1 < (compD C ops.toList (befs ops.toList) 0 (compL C ops.toList [] ops.toList)).length by rw [hlen]; exact l1)
    obtain ⟨o, ds, ho, hde, e⟩ := get hd
    rw [e] at q1 q2 q3
    rw [hde] at hd
    exact ⟨_, hd, by rw [hlen]; exact l2, q2, q3, fun σ => P_gd _ _ (P_op q1)⟩
/-- A region that draws, as one that doesn't. -/
theorem plain_kc {lp : Lp} {k : K} {ops : Array Oper} {ps : List Nat} (hb : plainB C ops = true) (hk : k = .draw (compD C ops.toList (befs ops.toList) 0 (compL C ops.toList [] ops.toList)) (drawPl C ops) (flL ps ops.toList)) (s : St) (κn : Kt) (κx : Ex → Kt) :
    kc C run lp k s κn κx = kc C run lp (.reg (wrapD ((drawPl C ops).map (·.1)) (compD C ops.toList (befs ops.toList) 0 (compL C ops.toList [] ops.toList)) 0) (flL ps ops.toList)) s κn κx := by
  have H := plainB_ok hb run s.t
  subst hk
  have hn : NatK C (.draw (compD C ops.toList (befs ops.toList) 0 (compL C ops.toList [] ops.toList)) (drawPl C ops) (flL ps ops.toList)) := by unfold NatK; trivial
  have hr : NatK C (.reg (wrapD ((drawPl C ops).map (·.1)) (compD C ops.toList (befs ops.toList) 0 (compL C ops.toList [] ops.toList)) 0) (flL ps ops.toList)) := by
    unfold NatK
    exact wrapD_nat _ _ _ fun d hd => fun run σ T h => (plainB_ok hb run T).nat d hd σ h
  rw [kc_eq _ hn, kc_eq _ hr]
  have := plain_go (fl := flL ps ops.toList) H (compD C ops.toList (befs ops.toList) 0 (compL C ops.toList [] ops.toList)) [] [] [] s.h rfl rfl (fun i d r _ h2 => by simp at h2)
  show kcR κn κx (kNrm (drawA C run (flL ps ops.toList) s.t _ (drawPl C ops) s.h)) = kcR κn κx (kNrm (opsA C run (flL ps ops.toList) s.t (wrapD _ _ 0) [] s.h))
  exact congrArg (fun x => kcR κn κx (kNrm x)) this
end
noncomputable section
/-- Two ways that must leave the same. -/
def kc2 (F G : Kt → Option Rs) (κn : Kt) : Option Rs := F fun s1 => G fun s2 => bq (sameS s1 s2) (κn s1) none
end
theorem sameS_refl (s : St) : sameS s s = true := by
  show and (sameT s.t s.t) (sameH s.h s.h) = true
  rw [sameT_refl, sameH_refl]; rfl
section
variable {C : Cx} {run : Run} {lp : Lp}
theorem reg_kc (l : List OK) (fl : List (Nat × Nat)) (hl : ∀ o ∈ l, NatO' C o) (s : St) (κn : Kt) (κx : Ex → Kt) : kc C run lp (.reg l fl) s κn κx = kcR κn κx (kNrm (opsA C run fl s.t l [] s.h)) := by
  have hr : NatK C (.reg l fl) := by unfold NatK; exact hl
  rw [kc_eq _ hr]; rfl
theorem plain2_kc {k : K} {ops1 ops2 : Array Oper} {ps : List Nat} (hb1 : plainB C ops1 = true) (hb2 : plainB C ops2 = true)
    (hk : k = .draw2 (compD C ops1.toList (befs ops1.toList) 0 (compL C ops1.toList [] ops1.toList)) (drawPl C ops1) (flL ps ops1.toList) (compD C ops2.toList (befs ops2.toList) 0 (compL C ops2.toList [] ops2.toList)) (drawPl C ops2) (flL ps ops2.toList)) (s : St) (κn : Kt) (κx : Ex → Kt) :
    kc C run lp k s κn κx = kc2 (fun κ => kc C run lp (.reg (wrapD ((drawPl C ops1).map (·.1)) (compD C ops1.toList (befs ops1.toList) 0 (compL C ops1.toList [] ops1.toList)) 0) (flL ps ops1.toList)) s κ κx)
      (fun κ => kc C run lp (.reg (wrapD ((drawPl C ops2).map (·.1)) (compD C ops2.toList (befs ops2.toList) 0 (compL C ops2.toList [] ops2.toList)) 0) (flL ps ops2.toList)) s κ κx) κn := by
  have n1 := wrapD_nat (C := C) ((drawPl C ops1).map (·.1)) (compD C ops1.toList (befs ops1.toList) 0 (compL C ops1.toList [] ops1.toList)) 0 fun d hd => fun run σ T h => (plainB_ok hb1 run T).nat d hd σ h
  have n2 := wrapD_nat (C := C) ((drawPl C ops2).map (·.1)) (compD C ops2.toList (befs ops2.toList) 0 (compL C ops2.toList [] ops2.toList)) 0 fun d hd => fun run σ T h => (plainB_ok hb2 run T).nat d hd σ h
  have e1 : drawA C run (flL ps ops1.toList) s.t _ (drawPl C ops1) s.h = opsA C run (flL ps ops1.toList) s.t (wrapD ((drawPl C ops1).map (·.1)) (compD C ops1.toList (befs ops1.toList) 0 (compL C ops1.toList [] ops1.toList)) 0) [] s.h :=
    plain_go (fl := flL ps ops1.toList) (plainB_ok hb1 run s.t) (compD C ops1.toList (befs ops1.toList) 0 (compL C ops1.toList [] ops1.toList)) [] [] [] s.h rfl rfl (fun i d r _ h2 => by simp at h2)
  have e2 : drawA C run (flL ps ops2.toList) s.t _ (drawPl C ops2) s.h = opsA C run (flL ps ops2.toList) s.t (wrapD ((drawPl C ops2).map (·.1)) (compD C ops2.toList (befs ops2.toList) 0 (compL C ops2.toList [] ops2.toList)) 0) [] s.h :=
    plain_go (fl := flL ps ops2.toList) (plainB_ok hb2 run s.t) (compD C ops2.toList (befs ops2.toList) 0 (compL C ops2.toList [] ops2.toList)) [] [] [] s.h rfl rfl (fun i d r _ h2 => by simp at h2)
  subst hk
  have hn : NatK C (.draw2 (compD C ops1.toList (befs ops1.toList) 0 (compL C ops1.toList [] ops1.toList)) (drawPl C ops1) (flL ps ops1.toList) (compD C ops2.toList (befs ops2.toList) 0 (compL C ops2.toList [] ops2.toList)) (drawPl C ops2) (flL ps ops2.toList)) := by unfold NatK; trivial
  rw [kc_eq _ hn]
  unfold kc2
  simp only [reg_kc _ _ n1, reg_kc _ _ n2]
  show kcR κn κx (kNrm (obind (drawA C run (flL ps ops1.toList) s.t _ (drawPl C ops1) s.h) fun r => bq (sameR r (drawA C run (flL ps ops2.toList) s.t _ (drawPl C ops2) s.h)) (some r) none)) = _
  rw [e1, e2]
  generalize opsA C run (flL ps ops1.toList) s.t _ [] s.h = A1
  generalize opsA C run (flL ps ops2.toList) s.t _ [] s.h = A2
  rcases A1 with _ | (⟨t, h⟩ | ⟨v, h⟩)
  · rfl
  · rcases A2 with _ | (⟨t', h'⟩ | ⟨v', h'⟩)
    · rfl
    · show kcR κn κx (kNrm (bq (and (sameT t t') (sameH h h')) (some (.st t h)) none)) = bq (and (sameT t t') (sameH h h')) (κn ⟨t, h⟩) none
      cases and (sameT t t') (sameH h h') <;> rfl
    · rfl
  · rfl
end
noncomputable section
/-- A region that draws, with all states on the way. -/
def drawG (C : Cx) (run : Run) (fl : List (Nat × Nat)) (t : Tms) (D : List DOp) (pl : List (Nat × Nat)) : List DOp → List Tr → List AV → AH → Option Rs
  | [], tr, σ, h => bq (allB (pairA C run t D tr) pl) (some (.st (flushA σ t fl) h)) none
  | o :: l, tr, σ, h => obind (stepD C run t o tr σ h) fun r => drawG C run fl t D pl l (fapp tr [r]) (r.v :: σ) r.h'
/-- A step that reads; one that changes memory; one that makes something new. -/
def sRd (σ : List AV) (h : AH) (q : Option Rs) (k : Tr → Option Rs) : Option Rs := obind (obind (vhO q) fun x => some ⟨σ, h, x.1, h⟩) k
def sEf (σ : List AV) (h : AH) (q : Option Rs) (k : Tr → Option Rs) : Option Rs := obind (obind (vhO q) fun x => bq (Nat.ble (flen h) (flen x.2)) (some ⟨σ, h, x.1, x.2⟩) none) k
def sMk (σ : List AV) (h : AH) (q : AH → Option Rs) (k : Tr → Option Rs) : Option Rs := obind (obind (vhO (q (frep (flen h) none))) fun x => bq (and (Nat.ble (flen h) (flen x.2)) (Nat.ble (flen x.2) (Nat.succ (flen h)))) (some ⟨σ, h, x.1, fapp h (fdrop (flen h) x.2)⟩) none) k
/-- Does a reader answer that? -/
def asks1 (r : Tr) (q : Option Rs) : Bool := and (AV.lt (flen r.h) r.v) (isV r.v (vhO q))
end
section
variable {C : Cx} {run : Run} {lp : Lp}
theorem drawG_go (fl : List (Nat × Nat)) (t : Tms) (D : List DOp) (pl : List (Nat × Nat)) : ∀ (l : List DOp) (tr : List Tr) (σ : List AV) (h : AH),
    drawG C run fl t D pl l tr σ h = obind (traceA C run t l tr σ h) fun x => bq (allB (pairA C run t D x.1) pl) (some (.st (flushA x.2.1 t fl) x.2.2)) none
  | [], tr, σ, h => rfl
  | o :: l, tr, σ, h => by
    show obind (stepD C run t o tr σ h) (fun r => drawG C run fl t D pl l (fapp tr [r]) (r.v :: σ) r.h') = obind (obind (stepD C run t o tr σ h) fun r => traceA C run t l (fapp tr [r]) (r.v :: σ) r.h') _
    cases stepD C run t o tr σ h with
    | none => rfl
    | some r => exact drawG_go fl t D pl l (fapp tr [r]) (r.v :: σ) r.h'
theorem draw_kc {k : K} {D : List DOp} {pl fl : List (Nat × Nat)} (hk : k = .draw D pl fl) (s : St) (κn : Kt) (κx : Ex → Kt) :
    kc C run lp k s κn κx = kcR κn κx (kNrm (drawG C run fl s.t D pl D [] [] s.h)) := by
  subst hk
  have hn : NatK C (.draw D pl fl) := by unfold NatK; trivial
  rw [kc_eq _ hn, drawG_go]
  rfl
theorem sRd_eq (σ : List AV) (h h' : AH) (v : AV) (k : Tr → Option Rs) : sRd σ h (some (.vh v h')) k = k ⟨σ, h, v, h⟩ := (rfl)
theorem sEf_eq (σ : List AV) (h h' : AH) (v : AV) (k : Tr → Option Rs) : sEf σ h (some (.vh v h')) k = bq (decide (h.length ≤ h'.length)) (k ⟨σ, h, v, h'⟩) none := by
  rw [← flen_eq h, ← flen_eq h', ← nble]
  show obind (bq (Nat.ble (flen h) (flen h')) (some _) none) k = _
  cases Nat.ble (flen h) (flen h') <;> rfl
theorem kVH_eq (v : AV) (h : AH) : kVH v h = some (.vh v h) := (rfl)
theorem vhO_vh (v : AV) (h : AH) : vhO (some (.vh v h)) = some (v, h) := (rfl)
theorem asks1_same (σ : List AV) (h h' h2 : AH) (v : AV) : asks1 ⟨σ, h, v, h'⟩ (some (.vh v h2)) = AV.lt (flen h) v := by
  show and (AV.lt (flen h) v) (AV.same v v) = _
  rw [same_refl]; simp
theorem okf_mk (f : OpA) : OK.f (.mk f) = f := (rfl)
theorem ev_st (σ : List AV) (t : Tms) (i : Nat) : ev C σ t (.st i) = sget σ i := (rfl)
theorem ev_tr (σ : List AV) (t : Tms) (i : Nat) : ev C σ t (.tr i) = tget t i := (rfl)
theorem ev_cst (σ : List AV) (t : Tms) (v : AV) : ev C σ t (.cst v) = v := (rfl)
theorem sget_0 (a : AV) (σ : List AV) : sget (a :: σ) 0 = a := (rfl)
theorem sget_s (a : AV) (σ : List AV) (i : Nat) : sget (a :: σ) (i + 1) = sget σ i := (rfl)
end
noncomputable section
/- A function's code, and its parts. -/
def codeOf (C : Cx) (f : Nat) : Code := Option.rec (motive := fun _ => Code) .skip (fun fn => match fn.body with | some c => c | none => .skip) (C.fn f)
def stripC : Code → Code
  | .scope b => stripC b
  | c => c
def cSub (c : Code) (i : Nat) : Code :=
  match stripC c with
  | .seq a b => bq (Nat.beq i 0) a b
  | .cond _ a b => bq (Nat.beq i 0) a b
  | .block _ b => b
  | .loop b => b
  | _ => .skip
def cAt (p : List Nat) : Code → Code := List.rec (motive := fun _ => Code → Code) (fun c => c) (fun i _ ih c => ih (cSub c i)) p
def opsOf (c : Code) : Array Oper :=
  match stripC c with
  | .region _ ops _ => ops
  | _ => #[]
end
end Go.Proofs.YtdkioifmieamoaaGreatDoor
