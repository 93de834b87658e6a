/- Contracts of this program, and what they tell in plain Lean. -/
import Derived.Test.YtemmgalfdmnkoaaGreatDoorME
namespace Go.Proofs.YtemmgalfdmnkoaaGreatDoor
set_option linter.unusedSimpArgs false
set_option linter.unusedVariables false
set_option linter.unnecessarySimpa false
def bw (F:AH→Ka→Option Rs):Prop:=(∀h κ,F h κ=none)∨ ∃v,∀h κ,F h κ=κ v h
def aaE (F:AH→Ka→Option Rs):Prop:=∀h,(∀κ,F h κ=none)∨ ∃v,∀κ,F h κ=κ v h
def dV (F:AH→Ka→Option Rs):Prop:=(∀h κ,F h κ=none)∨(∃v,∀h κ,F h κ=κ v h)∨ ∃(g:Nat→AV) (B:Option Blk),∀h κ,F h κ=κ (g (ag h)) (av h [B])
theorem bw.read {F:AH→Ka→Option Rs} (p:bw F):aaE F:=fun h=>by
 rcases p with p|⟨v,p⟩
 ·exact .inl (p h)
 ·exact .inr ⟨v,p h⟩
section
variable {α:Type} {C:Cx} {run:Run} {σ:List AV} {T:Tms} {x y z:AV} {ds:List (Option Nat)} {h:AH}
theorem P0:bw fun _ _=>none:=.inl fun _ _=>rfl
theorem P1 (v:AV):bw fun h κ=>κ v h:=.inr ⟨v,fun _ _=>rfl⟩
theorem Pb (c:Bool) {F G:AH→Ka→Option Rs} (hF:bw F) (hG:bw G):bw fun h κ=>bq c (F h κ) (G h κ):=by cases c<;>assumption
theorem Po (o:Option α) {F:α→AH→Ka→Option Rs} (H: ∀a,bw (F a)):bw fun h κ=>au o fun a=>F a h κ:=by
 cases o with
 |none=>exact P0
 |some a=>exact H a
theorem mB (x:AV) {F:Nat→Int→AH→Ka→Option Rs} (H: ∀k n,bw (F k n)):bw fun h κ=>da x fun k n=>F k n h κ:=by cases x<;>first|exact H _ _|exact P0
theorem atP (x:AV) {F:Bool→AH→Ka→Option Rs} (H: ∀b,bw (F b)):bw fun h κ=>nL x fun b=>F b h κ:=by cases x<;>first|exact H _|exact P0
theorem adH (x:AV) {F:List Nat→AH→Ka→Option Rs} (H: ∀b,bw (F b)):bw fun h κ=>ij x fun b=>F b h κ:=by cases x<;>first|exact H _|exact P0
theorem PPtr (x:AV) {F:Nat→Nat→AH→Ka→Option Rs} {G:List AV→Nat→AH→Ka→Option Rs} (H: ∀b o,bw (F b o)) (H': ∀b o,bw (G b o)):bw fun h κ=>mi x (fun b o=>F b o h κ) (fun c o=>G c o h κ):=by
 cases x<;>first|exact H _ _|exact H' _ _|exact P0
theorem PAgg (x:AV) {F:List AV→AH→Ka→Option Rs} (H: ∀b,bw (F b)):bw fun h κ=>tp x fun b=>F b h κ:=by cases x<;>first|exact H _|exact P0
theorem PTup (x:AV) {F:List AV→AH→Ka→Option Rs} (H: ∀b,bw (F b)):bw fun h κ=>ae0 x fun b=>F b h κ:=by cases x<;>first|exact H _|exact P0
theorem auT (x:AV) {A:AH→Ka→Option Rs} {F:Nat→Nat→Nat→Nat→Nat→Bool→AH→Ka→Option Rs} {G:List AV→Nat→AH→Ka→Option Rs} (HA:bw A) (H: ∀b o l c z e,bw (F b o l c z e)) (H': ∀b o,bw (G b o)):
 bw fun h κ=>mz x (A h κ) (fun b o l c z e=>F b o l c z e h κ) (fun c o=>G c o h κ):=by
 cases x<;>first|exact H _ _ _ _ _ _|exact H' _ _|exact HA|exact P0
theorem awT (x:AV) {A:AH→Ka→Option Rs} (HA:bw A):bw fun h κ=>aea x (A h κ):=by cases x<;>first|exact HA|exact P0
theorem PV (v:Option AV):bw fun h κ=>pV κ h v:=Po v fun v=>P1 v
theorem avW (i:Int) {F:Nat→AH→Ka→Option Rs} (H: ∀b,bw (F b)):bw fun h κ=>wD i fun b=>F b h κ:=by cases i<;>first|exact H _|exact P0
theorem akU (i:Int) (n:Nat) {F:Nat→AH→Ka→Option Rs} (H: ∀b,bw (F b)):bw fun h κ=>inB i n fun b=>F b h κ:=avW i fun m=>Pb _ (H m) P0
theorem awk (len cap:Nat) (lo hi mx:Option AV) {F:Nat→Nat→Nat→AH→Ka→Option Rs} (H: ∀l u m,bw (F l u m)):bw fun h κ=>oP len cap lo hi mx fun l u m=>F l u m h κ:=
 Po _ fun l=>Po _ fun u=>Po _ fun m=>Pb _ (H l u m) P0
theorem ae6 (n:Nat):bw fun h κ=>aj n x h κ:=PPtr x (fun _ _=>P1 _) fun _ _=>P1 _
theorem anL (o:Nat):bw fun h κ=>vP o x h κ:=PAgg x fun cs=>PV _
theorem amY (o n:Nat):bw fun h κ=>ur o n x h κ:=PAgg x fun cs=>Pb _ (P1 _) P0
theorem iZ:bw (no.f C run σ T):=P0
theorem wM (t:Nat) {f:TI→OK} (H: ∀ti,bw ((f ti).f C run σ T)):bw ((tyK C t f).f C run σ T):=by
 unfold tyK
 split
 ·exact H _
 ·exact iZ
theorem aqD (c:Bool) {k l:OK} (hk:bw (k.f C run σ T)) (hl:bw (l.f C run σ T)):bw ((bq c k l).f C run σ T):=by cases c<;>assumption
theorem P_nz (n:Nat) {k:OK} (hk:bw (k.f C run σ T)):bw ((nz n k).f C run σ T):=aqD _ iZ hk
theorem axw (op:BinOp) (k:IntKind) (a b:Od):bw ((xk op k a b).f C run σ T):=by
 cases op<;>first
  |exact mB _ fun k a=>mB _ fun k' b=>Pb _ (P1 _) P0
  |exact mB _ fun k a=>Pb _ (mB _ fun k' b=>Pb _ (P1 _) P0) P0
  |exact mB _ fun k a=>mB _ fun k' b=>avW b fun s=>Pb _ (P1 _) P0
theorem axn (op:BinOp) (a b:Od):bw ((xE op a b).f C run σ T):=by
 cases op<;>first|exact adH _ fun _=>adH _ fun _=>P1 _|exact adH _ fun _=>adH _ fun _=>Pb _ (P1 _) P0|exact iZ
theorem axc (op:BinOp) (ti:TI) (a b:Od):bw ((aej op ti a b).f C run σ T):=by
 unfold aej
 split
 ·exact axw _ _ _ _
 ·exact axn _ _ _
 ·split
  ·exact Po _ fun _=>P1 _
  ·exact Po _ fun _=>P1 _
  ·exact iZ
theorem P_un (op:UnOp) (ti:TI) (a:Od):bw ((unK op ti a).f C run σ T):=by
 unfold unK
 split
 ·exact mB _ fun _ n=>P1 _
 ·exact atP _ fun _=>P1 _
 ·exact mB _ fun _ n=>Pb _ (P1 _) P0
 ·exact iZ
theorem as0 (x:Od) (w:Bool) {k:OK} (hk:bw (k.f C run σ T)):bw ((OK.mk (zD x w k.f)).f C run σ T):=Po _ fun b=>Pb b hk (P1 _)
theorem P_gd (ops:List Oper) (g:Option (Nat×Bool)) {k:OK} (hk:bw (k.f C run σ T)):bw ((gdK ops ds g k).f C run σ T):=by
 unfold gdK
 split
 ·exact hk
 ·split
  ·split
   ·exact as0 _ _ hk
   ·exact iZ
  ·exact iZ
end
noncomputable section
def gI (C:Cx) (t:Nat) (p:TK→Bool):Bool:=
 match C.ty t with
 |some ti=>p ti.kind
 |none=>true
def afe (C:Cx):Op→Bool
 | .move _| .assign _| .pick .. | .nilCheck _| .unOp .. | .extract .. | .fieldAddr .. | .field .. | .build .. | .binOp .. | .indexAddr .. | .index .. =>true
 | .convert s d _=>gI C s fun k=>match k with
   | .int _=>true
   |_=>false
 | .slice ty .. =>gI C ty fun k=>match k with
   | .array _ _=>false
   |_=>true
 | .call c=>match c.callee with
   | .builtin .len=>match c.argTypes.toList with
     |t::_=>gI C t fun k=>match k with
      | .map _ _=>false
      |_=>true
     |[]=>true
   | .builtin .min| .builtin .max=>true
   |_=>false
 |_=>false
def amB (C:Cx):Op→Bool
 | .load .. | .lookup .. =>true
 | .convert _ d _=>gI C d fun k=>match k with
   | .string=>true
   |_=>false
 |_=>false
end
section
variable {C:Cx} {run:Run} {σ:List AV} {T:Tms} {ds:List (Option Nat)}
theorem P_op {o:Op} (hp:afe C o=true):bw ((opK C ds o).f C run σ T):=by
 cases o<;>try (cases hp;done)
 case move x=>exact P1 _
 case assign x=>exact P1 _
 case pick c x y=>exact atP _ fun _=>P1 _
 case build t ps=>
  refine wM _ fun ti=>?_
  split
  ·exact aqD _ (Po _ fun _=>P1 _) iZ
  ·exact wM _ fun ei=>Po _ fun _=>P1 _
  ·exact iZ
 case nilCheck x=>exact awT _ (P1 _)
 case binOp op t x y ty=>exact wM _ fun ti=>axc _ _ _ _
 case unOp op t x=>exact wM _ fun ti=>P_un _ _ _
 case convert s d x=>
  replace hp:gI C s (fun k=>match k with| .int _=>true|_=>false)=true:=hp
  unfold gI at hp;show bw ((tyK C s fun si=>tyK C d fun di=>iO C (Nat.beq s d) si di (od ds x)).f C run σ T);unfold tyK
  split
  ·rename_i si hs
   rw [hs] at hp
   split
   ·rename_i di hd
    show bw ((iO C (Nat.beq s d) si di (od ds x)).f C run σ T);unfold iO
    split
    ·exact mB _ fun _ n=>P1 _
    all_goals (rename_i k1 _;try rename_i k2;simp_all)
    all_goals exact iZ
   ·exact iZ
  ·exact iZ
 case slice t x lo hi mx=>
  replace hp:gI C t (fun k=>match k with| .array _ _=>false|_=>true)=true:=hp
  unfold gI at hp;show bw ((tyK C t fun ti=>match ti.kind with
  | .string=>match mx with
    |none=>.mk (oSlT (od ds x) (lo.map (od ds)) (hi.map (od ds)))
    |some _=>no
  | .slice e=>tyK C e fun ei=>.mk (qU ei.size (od ds x) (lo.map (od ds)) (hi.map (od ds)) (mx.map (od ds)))
  | .array n e=>match mx with
    |none=>tyK C e fun ei=>nz ei.size (.mk (oSlA n ei.size (od ds x) (lo.map (od ds)) (hi.map (od ds))))
    |some _=>no
  |_=>no).f C run σ T)
  unfold tyK
  split
  ·rename_i ti ht
   rw [ht] at hp
   dsimp only at hp ⊢
   split
   ·split
    ·exact adH _ fun s=>Po _ fun l=>Po _ fun u=>Pb _ (P1 _) P0
    ·exact iZ
   ·exact wM _ fun ei=>auT _ (awk _ _ _ _ _ fun _ _ _=>P1 _) (fun b o l c z e=>awk _ _ _ _ _ fun _ _ _=>Pb _ (Pb _ (P1 _) (P1 _)) P0) fun cs l=>awk _ _ _ _ _ fun _ _ _=>Pb _ (Pb _ (P1 _) (P1 _)) P0
   ·rename_i hk
    rw [hk] at hp;cases hp
   ·exact iZ
  ·exact iZ
 case fieldAddr t x f=>
  show bw ((match eU C t f with|some (off,ui)=>nz ui.size (OK.mk (o1 (aj off) (od ds x)))|none=>no).f C run σ T)
  split
  ·exact P_nz _ (ae6 _)
  ·exact iZ
 case field t x f=>
  show bw ((match eU C t f with|some (off,ui)=>bq ui.agg (OK.mk (o1 (ur off ui.size) (od ds x))) (OK.mk (o1 (vP off) (od ds x)))|none=>no).f C run σ T)
  split
  ·exact aqD _ (amY _ _) (anL _)
  ·exact iZ
 case indexAddr t x i=>
  refine wM _ fun ti=>?_
  split
  ·exact wM _ fun ei=>mB _ fun _ i=>akU i _ fun m=>ae6 _
  ·exact wM _ fun ei=>mB _ fun _ i=>auT _ P0 (fun b o l c z e=>akU i l fun m=>Pb _ (P1 _) P0) fun cs l=>akU i l fun m=>P1 _
  ·exact iZ
 case index t x i=>
  refine wM _ fun ti=>?_
  split
  ·exact wM _ fun ei=>aqD _ (mB _ fun _ i=>akU i _ fun m=>amY _ _) (mB _ fun _ i=>akU i _ fun m=>anL _)
  ·exact adH _ fun l=>mB _ fun _ i=>avW i fun m=>Po _ fun _=>P1 _
  ·exact iZ
 case extract x i=>exact PTup _ fun cs=>PV _
 case call c=>
  replace hp:(match c.callee with
  | .builtin .len=>match c.argTypes.toList with
    |t::_=>gI C t fun k=>match k with
     | .map _ _=>false
     |_=>true
    |[]=>true
  | .builtin .min| .builtin .max=>true
  |_=>false)=true:=hp
  show bw ((qw C c ds).f C run σ T);unfold qw
  split at hp
  ·rename_i hc
   rw [hc];show bw ((match c.args.toList,c.argTypes.toList with
    |[x],t::_=>tyK C t fun ti=>match ti.kind with
     | .string=>.mk (o1 ap7 (od ds x))
     | .slice _=>.mk (o1 bG (od ds x))
     | .map _ _=>.mk (o1 arQ (od ds x))
     | .array n _=>.mk (ap1 (.int 9223372036854775807 (.ofNat n)))
     |_=>no
    |_,_=>no).f C run σ T)
   split
   ·rename_i x t r h1 h2
    rw [h2] at hp;have hp:gI C t (fun k=>match k with| .map _ _=>false|_=>true)=true:=hp;unfold gI at hp;unfold tyK
    split
    ·rename_i ti ht
     rw [ht] at hp
     dsimp only at hp ⊢
     split
     ·exact adH _ fun _=>P1 _
     ·exact auT _ (P1 _) (fun _ _ _ _ _ _=>P1 _) fun _ _=>P1 _
     ·rename_i hk
      rw [hk] at hp;cases hp
     ·exact P1 _
     ·exact iZ
    ·exact iZ
   ·exact iZ
  ·rename_i hc
   rw [hc];show bw ((match c.args.toList with|[x,y]=>OK.mk (o2 (kh false) (od ds x) (od ds y))|_=>no).f C run σ T)
   split
   ·exact mB _ fun k a=>mB _ fun k' b=>Pb _ (P1 _) P0
   ·exact iZ
  ·rename_i hc
   rw [hc];show bw ((match c.args.toList with|[x,y]=>OK.mk (o2 (kh true) (od ds x) (od ds y))|_=>no).f C run σ T)
   split
   ·exact mB _ fun k a=>mB _ fun k' b=>Pb _ (P1 _) P0
   ·exact iZ
  ·cases hp
end
section
variable {α:Type} {C:Cx} {run:Run} {σ:List AV} {T:Tms} {ds:List (Option Nat)} {x y:AV}
theorem M0:dV fun _ _=>none:=.inl fun _ _=>rfl
theorem M1 (g:Nat→AV) (B:Option Blk):dV fun h κ=>κ (g (ag h)) (av h [B]):=.inr (.inr ⟨g,B,fun _ _=>rfl⟩)
theorem Mb (c:Bool) {F G:AH→Ka→Option Rs} (hF:dV F) (hG:dV G):dV fun h κ=>bq c (F h κ) (G h κ):=by cases c<;>assumption
theorem Mo (o:Option α) {F:α→AH→Ka→Option Rs} (H: ∀a,dV (F a)):dV fun h κ=>au o fun a=>F a h κ:=by
 cases o with
 |none=>exact M0
 |some a=>exact H a
theorem MInt (x:AV) {F:Nat→Int→AH→Ka→Option Rs} (H: ∀k n,dV (F k n)):dV fun h κ=>da x fun k n=>F k n h κ:=by cases x<;>first|exact H _ _|exact M0
theorem MStr (x:AV) {F:List Nat→AH→Ka→Option Rs} (H: ∀b,dV (F b)):dV fun h κ=>ij x fun b=>F b h κ:=by cases x<;>first|exact H _|exact M0
theorem MPos (i:Int) {F:Nat→AH→Ka→Option Rs} (H: ∀b,dV (F b)):dV fun h κ=>wD i fun b=>F b h κ:=by cases i<;>first|exact H _|exact M0
theorem tD:dV (no.f C run σ T):=M0
theorem apU (t:Nat) {f:TI→OK} (H: ∀ti,dV ((f ti).f C run σ T)):dV ((tyK C t f).f C run σ T):=by
 unfold tyK
 split
 ·exact H _
 ·exact tD
theorem awA (c:Bool) {k l:OK} (hk:dV (k.f C run σ T)) (hl:dV (l.f C run σ T)):dV ((bq c k l).f C run σ T):=by cases c<;>assumption
theorem arP (x:Od) (w:Bool) {k:OK} (hk:dV (k.f C run σ T)):dV ((OK.mk (zD x w k.f)).f C run σ T):=Mo _ fun b=>Mb b hk (.inr (.inl ⟨_,fun _ _=>rfl⟩))
theorem M_gd (ops:List Oper) (g:Option (Nat×Bool)) {k:OK} (hk:dV (k.f C run σ T)):dV ((gdK ops ds g k).f C run σ T):=by
 unfold gdK
 split
 ·exact hk
 ·split
  ·split
   ·exact arP _ _ hk
   ·exact tD
  ·exact tD
theorem al9 (B:Blk):dV fun h κ=>cU h B κ:=M1 (fun n=>.pto n 0) (some B)
theorem M_op {o:Op} (hm:mkB C o=true):dV ((opK C ds o).f C run σ T):=by
 cases o<;>try (cases hm;done)
 case alloc el=>exact apU _ fun ti=>al9 _
 case box el x=>exact Mb _ (al9 _) M0
 case buildSlice t n ps=>
  refine apU _ fun ti=>?_
  split
  ·exact apU _ fun ei=>awA _ tD (Mb _ (Mo _ fun cs=>M1 (fun k=>.slo k 0 n n ei.size true) (some (sQ ei.size n cs 0))) M0)
  ·exact tD
 case convert s d x=>
  replace hm:qK C s d=true:=hm
  unfold qK sliceTo at hm;show dV ((tyK C s fun si=>tyK C d fun di=>iO C (Nat.beq s d) si di (od ds x)).f C run σ T);unfold tyK
  split
  ·rename_i si hs
   rw [hs] at hm
   dsimp only at hm ⊢
   split
   ·rename_i di hd
    rw [hd] at hm
    dsimp only at hm ⊢
    unfold iO
    split
    ·rename_i k1 k2;rw [k1] at hm;cases hm
    ·rename_i k1 k2;rw [k1,k2] at hm;cases hm
    ·exact awA _ (MStr _ fun l=>M1 (fun n=>.slo n 0 (ag l) (ag l) 1 false) (some (.cells (lR l) 0))) tD
    ·rename_i k1 k2;rw [k1] at hm;cases hm
    ·rename_i k1 k2;rw [k1] at hm;cases hm
    ·exact tD
   ·exact tD
  ·exact tD
 case makeMap t r=>cases r<;>first|exact M1 (fun n=>.mpo n) (some (.map [] []))|exact tD
 case makeSlice t l c=>
  refine apU _ fun ti=>?_
  split
  ·refine apU _ fun ei=>awA _ tD (MInt _ fun k l=>MInt _ fun k' c=>MPos l fun l=>MPos c fun c=>Mb _ (M1 (fun n=>.slo n 0 l c ei.size true) (some (bq (Nat.blt 64 ei.size) (.rows ei.size (aU c ei.zero) 0) (.cells (nv ei.zero c) 0)))) M0)
  ·exact tD
theorem R_op {o:Op} (hr:amB C o=true):aaE ((opK C ds o).f C run σ T):=by
 intro h;have fin: ∀F:Ka→Option Rs,((∀κ,F κ=none)∨ ∃v,∀κ,F κ=κ v h)→((∀κ,F κ=none)∨ ∃v,∀κ,F κ=κ v h):=fun _ x=>x
 have rv: ∀x:Option AV,(∀κ:Ka,pV κ h x=none)∨ ∃v,∀κ:Ka,pV κ h x=κ v h:=by
  intro x
  cases x with
  |none=>exact .inl fun _=>rfl
  |some v=>exact .inr ⟨v,fun _=>rfl⟩
 have rc: ∀(c:Bool) (v:AV),(∀κ:Ka,bq c (κ v h) none=none)∨ ∃v',∀κ:Ka,bq c (κ v h) none=κ v' h:=by
  intro c v
  cases c with
  |false=>exact .inl fun _=>rfl
  |true=>exact .inr ⟨v,fun _=>rfl⟩
 have n0:(∀κ:Ka,(no.f C run σ T h) κ=none)∨ ∃v,∀κ:Ka,(no.f C run σ T h) κ=κ v h:=.inl fun _=>rfl
 cases o<;>try (cases hr;done)
 case load t p=>
  show (∀κ,(tyK C t fun ti=>bq ti.agg (.mk (o1 (aF ti.size) (od ds p))) (.mk (o1 ao (od ds p)))).f C run σ T h κ=none)∨ ∃v,∀κ,(tyK C t fun ti=>bq ti.agg (.mk (o1 (aF ti.size) (od ds p))) (.mk (o1 ao (od ds p)))).f C run σ T h κ=κ v h;unfold tyK
  split
  ·rename_i ti _
   dsimp only
   generalize hx:ev C σ T (od ds p)=x
   have hg: ∀n,(∀κ:Ka,aF n x h κ=none)∨ ∃v,∀κ:Ka,aF n x h κ=κ v h:=by
    intro n
    cases x<;>try exact .inl fun _=>rfl
    ·rename_i b o
     show (∀κ:Ka,au (ab h b) (fun B=>wE B (fun cs _=>oA n κ h o cs) fun z ll _=>ajF n κ h o z ll)=none)∨ ∃v,∀κ:Ka,au (ab h b) (fun B=>wE B (fun cs _=>oA n κ h o cs) fun z ll _=>ajF n κ h o z ll)=κ v h
     cases ab h b with
     |none=>exact .inl fun _=>rfl
     |some B=>cases B with
      |cells cs y=>exact rc (Nat.ble (Nat.add o n) (ag cs)) (iP cs o n)
      |map _ _=>exact .inl fun _=>rfl
      |rows z ll y=>
       show (∀κ:Ka,au (dQ ll (Nat.div o z)) _=none)∨ ∃v,∀κ:Ka,au (dQ ll (Nat.div o z)) _=κ v h
       cases dQ ll (Nat.div o z) with
       |none=>exact .inl fun _=>rfl
       |some l=>
        show (∀κ:Ka,bq (and (Nat.beq (Nat.mod o z) 0) (Nat.beq n z)) _ _=none)∨ ∃v,∀κ:Ka,bq (and (Nat.beq (Nat.mod o z) 0) (Nat.beq n z)) _ _=κ v h
        cases and (Nat.beq (Nat.mod o z) 0) (Nat.beq n z) with
        |true=>exact .inr ⟨_,fun _=>rfl⟩
        |false=>exact rc (Nat.ble (Nat.add (Nat.mod o z) n) z) (iP l (Nat.mod o z) n)
    ·rename_i cs o
     exact rc (Nat.ble (Nat.add o n) (ag cs)) (iP cs o n)
   have h1:(∀κ:Ka,ao x h κ=none)∨ ∃v,∀κ:Ka,ao x h κ=κ v h:=by
    cases x<;>try exact .inl fun _=>rfl
    ·rename_i b o
     show (∀κ:Ka,au (ab h b) (fun B=>wE B (fun cs _=>tB κ h o cs) fun z ll _=>ahf κ h o z ll)=none)∨ ∃v,∀κ:Ka,au (ab h b) (fun B=>wE B (fun cs _=>tB κ h o cs) fun z ll _=>ahf κ h o z ll)=κ v h
     cases ab h b with
     |none=>exact .inl fun _=>rfl
     |some B=>cases B with
      |cells cs y=>exact rv _
      |map _ _=>exact .inl fun _=>rfl
      |rows z ll y=>
       show (∀κ:Ka,au (dQ ll (Nat.div o z)) _=none)∨ ∃v,∀κ:Ka,au (dQ ll (Nat.div o z)) _=κ v h
       cases dQ ll (Nat.div o z) with
       |none=>exact .inl fun _=>rfl
       |some l=>exact rv _
    ·exact rv _
   cases ti.agg with
   |true=>
    show (∀κ:Ka,aF ti.size (ev C σ T (od ds p)) h κ=none)∨ ∃v,∀κ:Ka,aF ti.size (ev C σ T (od ds p)) h κ=κ v h
    rw [hx];exact hg _
   |false=>
    show (∀κ:Ka,ao (ev C σ T (od ds p)) h κ=none)∨ ∃v,∀κ:Ka,ao (ev C σ T (od ds p)) h κ=κ v h
    rw [hx];exact h1
  ·exact n0
 case convert s d x=>
  replace hr:gI C d (fun k=>match k with| .string=>true|_=>false)=true:=hr
  unfold gI at hr;show (∀κ,(tyK C s fun si=>tyK C d fun di=>iO C (Nat.beq s d) si di (od ds x)).f C run σ T h κ=none)∨ ∃v,∀κ,(tyK C s fun si=>tyK C d fun di=>iO C (Nat.beq s d) si di (od ds x)).f C run σ T h κ=κ v h;have fb: ∀x:AV,(∀κ:Ka,dD x h κ=none)∨ ∃v,∀κ:Ka,dD x h κ=κ v h:=by
   intro x;unfold dD
   cases qB x with
   |none=>exact .inl fun _=>rfl
   |some n=>
    show (∀κ:Ka,au (eo h 1 n x) _=none)∨ ∃v,∀κ:Ka,au (eo h 1 n x) _=κ v h
    cases eo h 1 n x with
    |none=>exact .inl fun _=>rfl
    |some l=>
     show (∀κ:Ka,au (bytesOf l) _=none)∨ ∃v,∀κ:Ka,au (bytesOf l) _=κ v h
     cases bytesOf l with
     |none=>exact .inl fun _=>rfl
     |some b=>cases x<;>first|exact .inl fun _=>rfl|exact .inr ⟨.str b,fun _=>rfl⟩
  have fs: ∀x:AV,(∀κ:Ka,af9 x h κ=none)∨ ∃v,∀κ:Ka,af9 x h κ=κ v h:=by
   intro x
   cases x<;>first|exact .inl fun _=>rfl|exact .inr ⟨_,fun _=>rfl⟩
  unfold tyK
  split
  ·rename_i si hs
   dsimp only
   split
   ·rename_i di hd
    rw [hd] at hr
    dsimp only at hr
    show (∀κ,(iO C (Nat.beq s d) si di (od ds x)).f C run σ T h κ=none)∨ ∃v,∀κ,(iO C (Nat.beq s d) si di (od ds x)).f C run σ T h κ=κ v h;unfold iO
    split
    ·rename_i k1 k2;rw [k2] at hr;cases hr
    ·exact fs _
    ·rename_i k1 k2;rw [k2] at hr;cases hr
    ·cases ajA C _ with
     |true=>exact fb _
     |false=>exact n0
    ·rename_i k1 k2;rw [k2] at hr;cases hr
    ·exact n0
   ·exact n0
  ·exact n0
 case lookup t x i cok=>
  show (∀κ,(tyK C t fun ti=>match ti.kind with| .map kt et=>tyK C kt fun ki=>tyK C et fun ei=>.mk (o2 (nG ki ei cok) (od ds x) (od ds i))|_=>no).f C run σ T h κ=none)∨ ∃v,∀κ,(tyK C t fun ti=>match ti.kind with| .map kt et=>tyK C kt fun ki=>tyK C et fun ei=>.mk (o2 (nG ki ei cok) (od ds x) (od ds i))|_=>no).f C run σ T h κ=κ v h;have lk: ∀(ki ei:TI) (x y:AV),(∀κ:Ka,nG ki ei cok x y h κ=none)∨ ∃v,∀κ:Ka,nG ki ei cok x y h κ=κ v h:=by
   intro ki ei x y;unfold nG
   cases mapOf h x with
   |none=>exact .inl fun _=>rfl
   |some p=>
    show (∀κ:Ka,bq (jz ki y) (au (jP y p.1) fun i=>pV κ h (ak4 ei p.2 cok i)) none=none)∨ ∃v,∀κ:Ka,bq (jz ki y) (au (jP y p.1) fun i=>pV κ h (ak4 ei p.2 cok i)) none=κ v h
    cases jz ki y with
    |false=>exact .inl fun _=>rfl
    |true=>
     cases jP y p.1 with
     |none=>exact .inl fun _=>rfl
     |some i=>exact rv _
  unfold tyK
  split
  ·dsimp only
   split
   ·split
    ·split
     ·exact lk _ _ _ _
     ·exact n0
    ·exact n0
   ·exact n0
  ·exact n0
theorem R_gd (ops:List Oper) (g:Option (Nat×Bool)) {k:OK} (hk:aaE (k.f C run σ T)):aaE ((gdK ops ds g k).f C run σ T):=by
 intro h;unfold gdK
 split
 ·exact hk h
 ·split
  ·split
   ·rename_i d _
    show (∀κ,au (xS (ev C σ T (od ds (.tmp d))) _) (anf k.f C run σ T h κ)=none)∨ ∃v,∀κ,au (xS (ev C σ T (od ds (.tmp d))) _) (anf k.f C run σ T h κ)=κ v h
    cases xS (ev C σ T (od ds (.tmp d))) _ with
    |none=>exact .inl fun _=>rfl
    |some b=>cases b with
     |true=>exact hk h
     |false=>exact .inr ⟨_,fun _=>rfl⟩
   ·exact .inl fun _=>rfl
  ·exact .inl fun _=>rfl
end
noncomputable section
def ltK (o:OK):OK:=.mk fun C run σ t h κ=>o.f C run σ t h fun v h'=>bq (AV.lt (ag h) v) (κ v h') none
def leK (o:OK):OK:=.mk fun C run σ t h κ=>o.f C run σ t h fun v h'=>bq (Nat.ble (ag h) (ag h')) (κ v h') none
def gi (ks:List Nat) (j:Nat) (d:DOp):OK:=bq d.ef (leK d.op) (bq (rA j ks) (ltK d.op) d.op)
def gY (ks:List Nat) (D:List DOp):Nat→List OK:=List.rec (motive:=fun _=>Nat→List OK) (fun _=>[]) (fun d _ ih j=>gi ks j d::ih (Nat.succ j)) D
def isE (l:List Nat):Bool:=List.rec (motive:=fun _=>Bool) true (fun _ _ _=>false) l
def vC (C:Cx) (ops:Array Oper):Bool:=
 let l:=ops.toList
 let b:=cr l
 ((List.range l.length).all fun j=>mkB C (l.getD j default).op||(eF C (l.getD j default).op&&isE (gJ C l b j))||(!eF C (l.getD j default).op&&(afe C (l.getD j default).op||(amB C (l.getD j default).op&&isE (gJ C l b j)))))&&
 (bX C ops).all fun p=>Nat.blt p.1 l.length&&Nat.blt p.2 l.length&&(afe C (l.getD p.1 default).op&& !mkB C (l.getD p.1 default).op&& !eF C (l.getD p.1 default).op)
end
structure ajW (C:Cx) (run:Run) (T:Tms) (D:List DOp) (pl:List (Nat×Nat)):Prop where
 nat: ∀d∈D,∀σ h,aY (d.op.f C run σ T h)
 mkr: ∀d∈D,d.nw=true→d.ef=false∧ ∀σ,dV (d.op.f C run σ T)
 ef: ∀d∈D,d.nw=false→d.ef=true→d.hide=[]
 rd: ∀d∈D,d.nw=false→d.ef=false→(∀σ,bw (d.op.f C run σ T))∨(d.hide=[]∧ ∀σ,aaE (d.op.f C run σ T))
 pl: ∀p∈pl,∃d,D[p.1]? =some d∧p.2<D.length∧d.nw=false∧d.ef=false∧ ∀σ,bw (d.op.f C run σ T)
theorem nA {b:Nat}: ∀{ks:List Nat},rA b ks=true↔b∈ks
 |[]=>by constructor<;>intro h<;>cases h
 |a::r=>by
  have ih:=@nA b r;show bq (Nat.beq a b) true (rA b r)=true↔_;rw [lJ]
  by_cases e:a=b
  ·rw [decide_eq_true e];simp [e,aA]
  ·rw [decide_eq_false e,aE,ih];simp [Ne.symm e]
theorem afx {l:List Nat} (h:isE l=true):l=[]:=by
 cases l with
 |nil=>rfl
 |cons a r=>cases h
theorem xl {C:Cx} {run:Run} {T:Tms}: ∀(l:List DOp) {tr tr':List Tr} {σ σ':List AV} {h h':AH},eZ C run T l tr σ h=some (tr',σ',h')→ ∃m,tr'=tr++m∧m.length=l.length
 |[],tr,tr',σ,σ',h,h',e=>by cases e;exact ⟨[],by simp,rfl⟩
 |d::l,tr,tr',σ,σ',h,h',e=>by
  obtain ⟨r,e1,e2⟩:=ai (show au (dY C run T d tr σ h) (fun r=>eZ C run T l (av tr [r]) (r.v::σ) r.h')=some (tr',σ',h') from e);obtain ⟨m,rfl,hm⟩:=xl l e2;exact ⟨r::m,by rw [aV];simp,by simp [hm]⟩
section
variable {C:Cx} {run:Run} {T:Tms}
noncomputable def sS (C:Cx) (run:Run) (fl:List (Nat×Nat)) (T:Tms) (D:List DOp) (pl:List (Nat×Nat)) (x:List Tr×List AV×AH):Option Rs:=bq (gh (nh C run T D x.1) pl) (some (.st (cx x.2.1 T fl) x.2.2)) none
theorem uo {fl pl:List (Nat×Nat)} {D:List DOp} (H:ajW C run T D pl): ∀(l done:List DOp) (tr:List Tr) (σ:List AV) (h:AH),D=done++l→tr.length=done.length→
 (∀(i:Nat) (d:DOp) (r:Tr),D[i]? =some d→tr[i]? =some r→i∈pl.map (·.1)→AV.lt (ag r.h) r.v=true∧ ∀h2,vhO (d.op.f C run r.σ T h2 kVH)=some (r.v,h2))→
 au (eZ C run T l tr σ h) (sS C run fl T D pl)=gW C run fl T (gY (pl.map (·.1)) l tr.length) σ h:=by
 intro l
 induction l with
 |nil=>
  intro done tr σ h hD hl hi;show sS C run fl T D pl (tr,σ,h)=some (.st (cx σ T fl) h);unfold sS
  have:gh (nh C run T D tr) pl=true:=vO.2 fun p hp=>by
   obtain ⟨d,h1,h2,_,_,_⟩:=H.pl p hp;have hDl:D.length=tr.length:=by rw [hD,hl];simp
   have l1:p.1<tr.length:=by rw [←hDl];exact (Bc.1 h1).1
   have a2:tr[p.1]? =some tr[p.1]:=Bd l1;have a3:tr[p.2]? =some (tr[p.2]'(by omega)):=Bd (by omega);obtain ⟨c1,c2⟩:=hi _ _ _ h1 a2 (Cg.2 ⟨p,hp,rfl⟩);unfold nh;rw [bI,bI,bI,h1,a2,a3];show and (AV.lt (ag (tr[p.1]).h) (tr[p.1]).v) (isV (tr[p.1]).v (vhO (d.op.f C run (tr[p.1]).σ T _ kVH)))=true;rw [c1,c2];show AV.same _ _=true;exact gG _
  rw [this];rfl
 |cons d l ih=>
  intro done tr σ h hD hl hi;have hd:d∈D:=by rw [hD];simp
  have hDj:D[tr.length]? =some d:=by rw [hD,hl];simp
  have hnj: ∀p∈pl,p.1=tr.length→d.nw=false∧d.ef=false∧ ∀σ,bw (d.op.f C run σ T):=fun p hp e=>by
   obtain ⟨d',h1,_,h3⟩:=H.pl p hp;rw [e,hDj] at h1
   cases h1
   exact h3
  have go: ∀(v:AV) (h':AH),dY C run T d tr σ h=some ⟨σ,h,v,h'⟩→(tr.length∈pl.map (·.1)→AV.lt (ag h) v=true∧ ∀h2,vhO (d.op.f C run σ T h2 kVH)=some (v,h2))→
   au (eZ C run T (d::l) tr σ h) (sS C run fl T D pl)=gW C run fl T (gY (pl.map (·.1)) l (tr.length+1)) (v::σ) h':=fun v h' e hv=>by
   show au (au (dY C run T d tr σ h) fun r=>eZ C run T l (av tr [r]) (r.v::σ) r.h') _=_;rw [e,aT,aV]
   have:=ih (done++[d]) (tr++[⟨σ,h,v,h'⟩]) (v::σ) h' (by rw [hD];simp) (by simp [hl]) (fun i q r h1 h2 h3=>by
    rcases De i tr.length with hlt|rfl|hgt
    ·rw [Bj hlt] at h2
     exact hi i q r h1 h2 h3
    ·rw [hDj] at h1
     rw [Bl (A9 _),C8] at h2
     cases h1;cases h2
     exact hv h3
    ·rw [BC (by simp;omega)] at h2;cases h2)
   rw [A7] at this;exact this
  have gn:dY C run T d tr σ h=none→au (eZ C run T (d::l) tr σ h) (sS C run fl T D pl)=none:=fun e=>by
   show au (au (dY C run T d tr σ h) fun r=>eZ C run T l (av tr [r]) (r.v::σ) r.h') _=_;rw [e];rfl
  have rhs:gW C run fl T (gY (pl.map (·.1)) (d::l) tr.length) σ h=(gi (pl.map (·.1)) tr.length d).f C run σ T h fun v=>gW C run fl T (gY (pl.map (·.1)) l (tr.length+1)) (v::σ):=by
   show gW C run fl T (gi (pl.map (·.1)) tr.length d::gY (pl.map (·.1)) l (tr.length+1)) σ h=_
   generalize gi (pl.map (·.1)) tr.length d=w
   cases w
   rfl
  rw [rhs];have hidE:dy tr []=[]:=rfl
  cases hw:d.nw with
  |true=>
   obtain ⟨he,hm⟩:=H.mkr d hd hw;have hin:rA tr.length (pl.map (·.1))=false:=by
    rw [BD];intro c;obtain ⟨p,hp,e⟩:=Cg.1 (nA.1 c)
    have:=(hnj p hp e).1
    rw [hw] at this;cases this
   have hni:tr.length∈pl.map (·.1)→False:=fun c=>by rw [nA.2 c] at hin;cases hin
   have hwr:gi (pl.map (·.1)) tr.length d=d.op:=by unfold gi;rw [he,hin];rfl
   rw [hwr];have hsd:dY C run T d tr σ h=au (vhO (d.op.f C run σ T (aU (ag h) none) kVH)) fun x=>bq (and (Nat.ble (ag h) (ag x.2)) (Nat.ble (ag x.2) (Nat.succ (ag h)))) (some ⟨σ,h,x.1,av h (cL (ag h) x.2)⟩) none:=by
    unfold dY;rw [hw];rfl
   have lb:ag (aU (α:=Option Blk) (ag h) none)=ag h:=by rw [gL,ah,CA]
   rcases hm σ with hm|⟨v,hm⟩|⟨g,B,hm⟩
   ·rw [hm,gn]
    rw [hsd,hm];rfl
   ·rw [hm,go v h _ (fun c=>(hni c).elim)]
    rw [hsd,hm];show bq (and (Nat.ble (ag h) (ag (aU (ag h) none))) (Nat.ble (ag (aU (ag h) none)) (Nat.succ (ag h)))) (some (⟨σ,h,v,av h (cL (ag h) (aU (ag h) none))⟩:Tr)) none=_;rw [lb,cq,cq,decide_eq_true (A9 _),decide_eq_true (Nat.le_succ _),bt,aV,Cw (by rw [←ah,lb];exact A9 _),Bx];rfl
   ·rw [hm,go (g (ag h)) (av h [B]) _ (fun c=>(hni c).elim)]
    rw [hsd,hm];show bq (and (Nat.ble (ag h) (ag (av (aU (ag h) none) [B]))) (Nat.ble (ag (av (aU (ag h) none) [B])) (Nat.succ (ag h)))) (some (⟨σ,h,g (ag (aU (α:=Option Blk) (ag h) none)),av h (cL (ag h) (av (aU (ag h) none) [B]))⟩:Tr)) none=_;have l2:ag (av (aU (ag h) none) [B])=ag h+1:=by rw [aV,ah,A7,←ah,lb];rfl
    have l3:cL (ag h) (av (aU (α:=Option Blk) (ag h) none) [B])=[B]:=by
     rw [bt,aV,CF (by rw [←ah,lb];exact A9 _),Cw (by rw [←ah,lb];exact A9 _),BO]
    rw [l2,lb,cq,cq,decide_eq_true (Nat.le_succ _),decide_eq_true (A9 _),l3];rfl
  |false=>
   cases he:d.ef with
   |true=>
    have hh:=H.ef d hd hw he;have hin:tr.length∈pl.map (·.1)→False:=fun c=>by
     obtain ⟨p,hp,e⟩:=Cg.1 c
     have:=(hnj p hp e).2.1
     rw [he] at this;cases this
    have hwr:gi (pl.map (·.1)) tr.length d=leK d.op:=by unfold gi;rw [he];rfl
    have hsd:dY C run T d tr σ h=au (vhO (d.op.f C run σ T h kVH)) fun x=>bq (Nat.ble (ag h) (ag x.2)) (some ⟨σ,h,x.1,x.2⟩) none:=by
     unfold dY;rw [hw,hh,he,aE];rfl
    rw [hwr];show _=d.op.f C run σ T h fun v h'=>bq (Nat.ble (ag h) (ag h')) (gW C run fl T (gY (pl.map (·.1)) l (tr.length+1)) (v::σ) h') none
    rcases H.nat d hd σ h with hn|⟨v,h',hn⟩
    ·rw [hn,gn]
     rw [hsd,hn];rfl
    ·rw [hn]
     have hsd:dY C run T d tr σ h=bq (Nat.ble (ag h) (ag h')) (some ⟨σ,h,v,h'⟩) none:=by rw [hsd,hn];rfl
     cases hb:Nat.ble (ag h) (ag h') with
     |true=>rw [aA,go v h' (by rw [hsd,hb];rfl) (fun c=>(hin c).elim)]
     |false=>rw [aE,gn (by rw [hsd,hb];rfl)]
   |false=>
    have hsd: ∀v,(∃F:AH→Ka→Option Rs,F=d.op.f C run σ T)→vhO (d.op.f C run σ T (dt (dy tr d.hide) h) kVH)=some v→dY C run T d tr σ h=some ⟨σ,h,v.1,h⟩:=fun v _ e=>by
     unfold dY;rw [hw,aE]
     show au (vhO (d.op.f C run σ T (dt (dy tr d.hide) h) kVH)) _=_;rw [e,he];rfl
    have hsn:vhO (d.op.f C run σ T (dt (dy tr d.hide) h) kVH)=none→dY C run T d tr σ h=none:=fun e=>by
     unfold dY;rw [hw,aE]
     show au (vhO (d.op.f C run σ T (dt (dy tr d.hide) h) kVH)) _=_;rw [e];rfl
    have main: ∀v:AV,(∀κ,d.op.f C run σ T h κ=κ v h)→dY C run T d tr σ h=some ⟨σ,h,v,h⟩→(tr.length∈pl.map (·.1)→ ∀h2,vhO (d.op.f C run σ T h2 kVH)=some (v,h2))→
     au (eZ C run T (d::l) tr σ h) (sS C run fl T D pl)=(gi (pl.map (·.1)) tr.length d).f C run σ T h fun v=>gW C run fl T (gY (pl.map (·.1)) l (tr.length+1)) (v::σ):=fun v hv hs hp=>by
     cases hin:rA tr.length (pl.map (·.1)) with
     |false=>
      have hni:tr.length∈pl.map (·.1)→False:=fun c=>by rw [nA.2 c] at hin;cases hin
      have hwr:gi (pl.map (·.1)) tr.length d=d.op:=by unfold gi;rw [he,hin];rfl
      rw [hwr,hv,go v h hs (fun c=>(hni c).elim)]
     |true=>
      have hwr:gi (pl.map (·.1)) tr.length d=ltK d.op:=by unfold gi;rw [he,hin];rfl
      rw [hwr];show _=d.op.f C run σ T h fun v h'=>bq (AV.lt (ag h) v) (gW C run fl T (gY (pl.map (·.1)) l (tr.length+1)) (v::σ) h') none
      rw [hv]
      cases hlt:AV.lt (ag h) v with
      |true=>rw [aA,go v h hs (fun c=>⟨hlt,hp c⟩)]
      |false=>
       rw [aE];show au (au (dY C run T d tr σ h) fun r=>eZ C run T l (av tr [r]) (r.v::σ) r.h') _=none;rw [hs,aT,aV]
       cases ht:eZ C run T l (tr++[⟨σ,h,v,h⟩]) (v::σ) h with
       |none=>rfl
       |some x=>
        obtain ⟨tr',σ',h'⟩:=x;obtain ⟨m,rfl,hm⟩:=xl l ht;obtain ⟨p,hp1,hp2⟩:=Cg.1 (nA.1 hin);show sS C run fl T D pl (_,σ',h')=none;unfold sS
        have:gh (nh C run T D (tr++[⟨σ,h,v,h⟩]++m)) pl=false:=by
         rw [BD];intro c
         have:=vO.1 c p hp1
         unfold nh at this;have a1:(tr++[⟨σ,h,v,h⟩]++m)[p.1]? =some ⟨σ,h,v,h⟩:=by
          have hp2:p.1=tr.length:=hp2;rw [hp2,BJ,Bl (A9 _),C8];rfl
         have a2:D[p.1]? =some d:=by
          have hp2:p.1=tr.length:=hp2;rw [hp2];exact hDj
         rw [bI,bI,bI,a1,a2] at this
         split at this
         ·rename_i o r e h1 h2 h3
          cases h2
          rw [show AV.lt (ag h) v=false from hlt] at this
          cases this
         ·cases this
        rw [this];rfl
    rcases H.rd d hd hw he with hp|⟨hh,hr⟩
    ·rcases hp σ with hp|⟨v,hp⟩
     ·rw [gn (hsn (by rw [hp];rfl))]
      have hz: ∀o:OK,(∀κ,o.f C run σ T h κ=none)→ ∀κ,(bq (rA tr.length (pl.map (·.1))) (ltK o) o).f C run σ T h κ=none:=fun o ho κ=>by
       cases rA tr.length (pl.map (·.1)) with
       |true=>exact ho _
       |false=>exact ho _
      unfold gi;rw [he,aE];exact (hz d.op (hp h) _).symm
     ·exact main v (hp h) (hsd (v,_) ⟨_,rfl⟩ (by rw [hp];rfl)) (fun _ h2=>by rw [hp];rfl)
    ·have hb:dt (dy tr d.hide) h=h:=by rw [hh];rfl
     rcases hr σ h with hp|⟨v,hp⟩
     ·rw [gn (hsn (by rw [hb,hp];rfl))]
      have hz: ∀o:OK,(∀κ,o.f C run σ T h κ=none)→ ∀κ,(bq (rA tr.length (pl.map (·.1))) (ltK o) o).f C run σ T h κ=none:=fun o ho κ=>by
       cases rA tr.length (pl.map (·.1)) with
       |true=>exact ho _
       |false=>exact ho _
      unfold gi;rw [he,aE];exact (hz d.op hp _).symm
     ·refine main v hp (hsd (v,_) ⟨_,rfl⟩ (by rw [hb,hp];rfl)) (fun c h2=>?_)
      obtain ⟨p,hp1,hp2⟩:=Cg.1 c;rcases (hnj p hp1 hp2).2.2 σ with q|⟨v',q⟩
      ·have:=hp kVH
       rw [q] at this;cases this
      ·have e1:=hp kVH
       rw [q] at e1
       cases e1
       rw [q];rfl
theorem ahG {C:Cx} {d:DOp} (hd:sP C d.op) (ks:List Nat) (j:Nat):sP C (gi ks j d):=by
 intro run σ T h;unfold gi;have a:aY ((leK d.op).f C run σ T h):=by
  rcases hd run σ T h with hn|⟨v,h',hn⟩
  ·exact .inl fun κ=>hn _
  ·have e: ∀κ:Ka,(leK d.op).f C run σ T h κ=bq (Nat.ble (ag h) (ag h')) (κ v h') none:=fun κ=>hn _
   cases hb:Nat.ble (ag h) (ag h') with
   |true=>exact .inr ⟨v,h',fun κ=>by rw [e,hb];rfl⟩
   |false=>exact .inl fun κ=>by rw [e,hb];rfl
 have b:aY ((ltK d.op).f C run σ T h):=by
  rcases hd run σ T h with hn|⟨v,h',hn⟩
  ·exact .inl fun κ=>hn _
  ·have e: ∀κ:Ka,(ltK d.op).f C run σ T h κ=bq (AV.lt (ag h) v) (κ v h') none:=fun κ=>hn _
   cases hb:AV.lt (ag h) v with
   |true=>exact .inr ⟨v,h',fun κ=>by rw [e,hb];rfl⟩
   |false=>exact .inl fun κ=>by rw [e,hb];rfl
 cases d.ef with
 |true=>exact a
 |false=>
  cases rA j ks with
  |true=>exact b
  |false=>exact hd run σ T h
theorem n9 {C:Cx} (ks:List Nat): ∀(D:List DOp) (j:Nat),(∀d∈D,sP C d.op)→ ∀o∈gY ks D j,sP C o
 |[],_,_,o,ho=>by cases ho
 |d::D,j,hd,o,ho=>by
  have ho:o∈gi ks j d::gY ks D (Nat.succ j):=ho;rcases Bv.1 ho with rfl|ho
  ·exact ahG (hd d (BB ..)) ks j
  ·exact n9 ks D _ (fun d h=>hd d (Bh _ h)) o ho
theorem jb {C:Cx} {ops:Array Oper} (hb:vC C ops=true) (run:Run) (T:Tms):ajW C run T (bZ C ops.toList (cr ops.toList) 0 (bo C ops.toList [] ops.toList)) (bX C ops):=by
 unfold vC at hb;simp only [Ba] at hb;obtain ⟨h1,h2⟩:=hb;have get: ∀{j:Nat} {d:DOp},(bZ C ops.toList (cr ops.toList) 0 (bo C ops.toList [] ops.toList))[j]? =some d→ ∃o ds,ops.toList[j]? =some o∧d=⟨jV C ops.toList ds o,gJ C ops.toList (cr ops.toList) j,mkB C o.op,eF C o.op⟩∧ops.toList.getD j default=o:=by
  intro j d hd;rw [kI,ko] at hd
  cases ho:ops.toList[j]? with
  |none=>rw [ho] at hd;simp at hd
  |some o=>
   rw [ho] at hd;simp only [CJ,Option.some.injEq,BE] at hd;have e:ops.toList.getD j default=o:=by rw [Bf,ho];rfl
   rw [e] at hd;exact ⟨o,_,rfl,hd.symm,e⟩
 have mem: ∀{d:DOp},d∈bZ C ops.toList (cr ops.toList) 0 (bo C ops.toList [] ops.toList)→ ∃j o ds,ops.toList[j]? =some o∧d=⟨jV C ops.toList ds o,gJ C ops.toList (cr ops.toList) j,mkB C o.op,eF C o.op⟩∧ops.toList.getD j default=o:=by
  intro d hd;obtain ⟨j,hj⟩:=List.getElem?_of_mem hd;exact ⟨j,get hj⟩
 have at1: ∀{j:Nat} {o:Oper},ops.toList[j]? =some o→ops.toList.getD j default=o→(mkB C o.op||(eF C o.op&&isE (gJ C ops.toList (cr ops.toList) j))||(!eF C o.op&&(afe C o.op||(amB C o.op&&isE (gJ C ops.toList (cr ops.toList) j)))))=true:=by
  intro j o ho e
  have:=BG.1 h1 j (Dr.2 (Bc.1 ho).1)
  rw [e] at this;exact this
 constructor
 ·intro d hd σ h
  obtain ⟨j,o,ds,_,rfl,_⟩:=mem hd;exact N_gd _ _ (N_op _)
 ·intro d hd hw
  obtain ⟨j,o,ds,_,rfl,_⟩:=mem hd;exact ⟨acA hw,fun σ=>M_gd _ _ (M_op hw)⟩
 ·intro d hd hw he
  obtain ⟨j,o,ds,ho,rfl,e⟩:=mem hd
  have:=at1 ho e
  rw [show mkB C o.op=false from hw,show eF C o.op=true from he] at this
  simp at this
  exact afx this
 ·intro d hd hw he
  obtain ⟨j,o,ds,ho,rfl,e⟩:=mem hd
  have:=at1 ho e
  rw [show mkB C o.op=false from hw,show eF C o.op=false from he] at this
  simp at this
  rcases this with hp|⟨hr,hh⟩
  ·exact .inl fun σ=>P_gd _ _ (P_op hp)
  ·exact .inr ⟨afx hh,fun σ=>R_gd _ _ (R_op hr)⟩
 ·intro p hp
  have:=BG.1 h2 p hp
  simp only [Ba,Bool.not_eq_true'] at this;obtain ⟨⟨l1,l2⟩,⟨q1,q2⟩,q3⟩:=this;rw [wG,decide_eq_true_iff] at l1 l2;have hlen:(bZ C ops.toList (cr ops.toList) 0 (bo C ops.toList [] ops.toList)).length=ops.toList.length:=by
   apply Nat.le_antisymm
   ·apply Dj
    intro c;have hd:=Bd c;obtain ⟨o,ds,ho,_⟩:=get hd;rw [BC (A9 _)] at ho;cases ho
   ·apply Dj
    intro c
    have:=kI (C:=C) ops.toList (cr ops.toList) (bo C ops.toList [] ops.toList) 0 (bZ C ops.toList (cr ops.toList) 0 (bo C ops.toList [] ops.toList)).length
    rw [BC (A9 _),ko,Bd c] at this
    simp at this
  have hd:=Bd (show p.1<(bZ C ops.toList (cr ops.toList) 0 (bo C ops.toList [] ops.toList)).length by rw [hlen];exact l1)
  obtain ⟨o,ds,ho,hde,e⟩:=get hd;rw [e] at q1 q2 q3;rw [hde] at hd;exact ⟨_,hd,by rw [hlen];exact l2,q2,q3,fun σ=>P_gd _ _ (P_op q1)⟩
theorem cA {lp:Lp} {k:K} {ops:Array Oper} {ps:List Nat} (hb:vC C ops=true) (hk:k= .draw (bZ C ops.toList (cr ops.toList) 0 (bo C ops.toList [] ops.toList)) (bX C ops) (flL ps ops.toList)) (s:St) (κn:Kt) (κx:Ex→Kt):
 kc C run lp k s κn κx=kc C run lp (.reg (gY ((bX C ops).map (·.1)) (bZ C ops.toList (cr ops.toList) 0 (bo C ops.toList [] ops.toList)) 0) (flL ps ops.toList)) s κn κx:=by
 have H:=jb hb run s.t;subst hk;have hn:eQ C (.draw (bZ C ops.toList (cr ops.toList) 0 (bo C ops.toList [] ops.toList)) (bX C ops) (flL ps ops.toList)):=by unfold eQ;trivial
 have hr:eQ C (.reg (gY ((bX C ops).map (·.1)) (bZ C ops.toList (cr ops.toList) 0 (bo C ops.toList [] ops.toList)) 0) (flL ps ops.toList)):=by
  unfold eQ;exact n9 _ _ _ fun d hd=>fun run σ T h=>(jb hb run T).nat d hd σ h
 rw [mh _ hn,mh _ hr]
 have:=uo (fl:=flL ps ops.toList) H (bZ C ops.toList (cr ops.toList) 0 (bo C ops.toList [] ops.toList)) [] [] [] s.h rfl rfl (fun i d r _ h2=>by simp at h2)
 show kcR κn κx (dr (jM C run (flL ps ops.toList) s.t _ (bX C ops) s.h))=kcR κn κx (dr (gW C run (flL ps ops.toList) s.t (gY _ _ 0) [] s.h));exact congrArg (fun x=>kcR κn κx (dr x)) this
end
noncomputable section
def kc2 (F G:Kt→Option Rs) (κn:Kt):Option Rs:=F fun s1=>G fun s2=>bq (ae8 s1 s2) (κn s1) none
end
theorem acK (s:St):ae8 s s=true:=by
 show and (ji s.t s.t) (gm s.h s.h)=true;rw [pg,ly];rfl
section
variable {C:Cx} {run:Run} {lp:Lp}
theorem anI (l:List OK) (fl:List (Nat×Nat)) (hl: ∀o∈l,sP C o) (s:St) (κn:Kt) (κx:Ex→Kt):kc C run lp (.reg l fl) s κn κx=kcR κn κx (dr (gW C run fl s.t l [] s.h)):=by
 have hr:eQ C (.reg l fl):=by unfold eQ;exact hl
 rw [mh _ hr];rfl
theorem xx {k:K} {ops1 ops2:Array Oper} {ps:List Nat} (hb1:vC C ops1=true) (hb2:vC C ops2=true)
 (hk:k= .draw2 (bZ C ops1.toList (cr ops1.toList) 0 (bo C ops1.toList [] ops1.toList)) (bX C ops1) (flL ps ops1.toList) (bZ C ops2.toList (cr ops2.toList) 0 (bo C ops2.toList [] ops2.toList)) (bX C ops2) (flL ps ops2.toList)) (s:St) (κn:Kt) (κx:Ex→Kt):
 kc C run lp k s κn κx=kc2 (fun κ=>kc C run lp (.reg (gY ((bX C ops1).map (·.1)) (bZ C ops1.toList (cr ops1.toList) 0 (bo C ops1.toList [] ops1.toList)) 0) (flL ps ops1.toList)) s κ κx)
  (fun κ=>kc C run lp (.reg (gY ((bX C ops2).map (·.1)) (bZ C ops2.toList (cr ops2.toList) 0 (bo C ops2.toList [] ops2.toList)) 0) (flL ps ops2.toList)) s κ κx) κn:=by
 have n1:=n9 (C:=C) ((bX C ops1).map (·.1)) (bZ C ops1.toList (cr ops1.toList) 0 (bo C ops1.toList [] ops1.toList)) 0 fun d hd=>fun run σ T h=>(jb hb1 run T).nat d hd σ h
 have n2:=n9 (C:=C) ((bX C ops2).map (·.1)) (bZ C ops2.toList (cr ops2.toList) 0 (bo C ops2.toList [] ops2.toList)) 0 fun d hd=>fun run σ T h=>(jb hb2 run T).nat d hd σ h
 have e1:jM C run (flL ps ops1.toList) s.t _ (bX C ops1) s.h=gW C run (flL ps ops1.toList) s.t (gY ((bX C ops1).map (·.1)) (bZ C ops1.toList (cr ops1.toList) 0 (bo C ops1.toList [] ops1.toList)) 0) [] s.h:=
  uo (fl:=flL ps ops1.toList) (jb hb1 run s.t) (bZ C ops1.toList (cr ops1.toList) 0 (bo C ops1.toList [] ops1.toList)) [] [] [] s.h rfl rfl (fun i d r _ h2=>by simp at h2)
 have e2:jM C run (flL ps ops2.toList) s.t _ (bX C ops2) s.h=gW C run (flL ps ops2.toList) s.t (gY ((bX C ops2).map (·.1)) (bZ C ops2.toList (cr ops2.toList) 0 (bo C ops2.toList [] ops2.toList)) 0) [] s.h:=
  uo (fl:=flL ps ops2.toList) (jb hb2 run s.t) (bZ C ops2.toList (cr ops2.toList) 0 (bo C ops2.toList [] ops2.toList)) [] [] [] s.h rfl rfl (fun i d r _ h2=>by simp at h2)
 subst hk;have hn:eQ C (.draw2 (bZ C ops1.toList (cr ops1.toList) 0 (bo C ops1.toList [] ops1.toList)) (bX C ops1) (flL ps ops1.toList) (bZ C ops2.toList (cr ops2.toList) 0 (bo C ops2.toList [] ops2.toList)) (bX C ops2) (flL ps ops2.toList)):=by unfold eQ;trivial
 rw [mh _ hn];unfold kc2;simp only [anI _ _ n1,anI _ _ n2];show kcR κn κx (dr (au (jM C run (flL ps ops1.toList) s.t _ (bX C ops1) s.h) fun r=>bq (aly r (jM C run (flL ps ops2.toList) s.t _ (bX C ops2) s.h)) (some r) none))=_;rw [e1,e2]
 generalize gW C run (flL ps ops1.toList) s.t _ [] s.h=A1
 generalize gW C run (flL ps ops2.toList) s.t _ [] s.h=A2
 rcases A1 with _|(⟨t,h⟩|⟨v,h⟩)
 ·rfl
 ·rcases A2 with _|(⟨t',h'⟩|⟨v',h'⟩)
  ·rfl
  ·show kcR κn κx (dr (bq (and (ji t t') (gm h h')) (some (.st t h)) none))=bq (and (ji t t') (gm h h')) (κn ⟨t,h⟩) none
   cases and (ji t t') (gm h h')<;>rfl
  ·rfl
 ·rfl
end
noncomputable section
def abm (C:Cx) (run:Run) (fl:List (Nat×Nat)) (t:Tms) (D:List DOp) (pl:List (Nat×Nat)):List DOp→List Tr→List AV→AH→Option Rs
 |[],tr,σ,h=>bq (gh (nh C run t D tr) pl) (some (.st (cx σ t fl) h)) none
 |o::l,tr,σ,h=>au (dY C run t o tr σ h) fun r=>abm C run fl t D pl l (av tr [r]) (r.v::σ) r.h'
def sRd (σ:List AV) (h:AH) (q:Option Rs) (k:Tr→Option Rs):Option Rs:=au (au (vhO q) fun x=>some ⟨σ,h,x.1,h⟩) k
def sEf (σ:List AV) (h:AH) (q:Option Rs) (k:Tr→Option Rs):Option Rs:=au (au (vhO q) fun x=>bq (Nat.ble (ag h) (ag x.2)) (some ⟨σ,h,x.1,x.2⟩) none) k
def sMk (σ:List AV) (h:AH) (q:AH→Option Rs) (k:Tr→Option Rs):Option Rs:=au (au (vhO (q (aU (ag h) none))) fun x=>bq (and (Nat.ble (ag h) (ag x.2)) (Nat.ble (ag x.2) (Nat.succ (ag h)))) (some ⟨σ,h,x.1,av h (cL (ag h) x.2)⟩) none) k
def aG (r:Tr) (q:Option Rs):Bool:=and (AV.lt (ag r.h) r.v) (isV r.v (vhO q))
end
section
variable {C:Cx} {run:Run} {lp:Lp}
theorem abY (fl:List (Nat×Nat)) (t:Tms) (D:List DOp) (pl:List (Nat×Nat)): ∀(l:List DOp) (tr:List Tr) (σ:List AV) (h:AH),
 abm C run fl t D pl l tr σ h=au (eZ C run t l tr σ h) fun x=>bq (gh (nh C run t D x.1) pl) (some (.st (cx x.2.1 t fl) x.2.2)) none
 |[],tr,σ,h=>rfl
 |o::l,tr,σ,h=>by
  show au (dY C run t o tr σ h) (fun r=>abm C run fl t D pl l (av tr [r]) (r.v::σ) r.h')=au (au (dY C run t o tr σ h) fun r=>eZ C run t l (av tr [r]) (r.v::σ) r.h') _
  cases dY C run t o tr σ h with
  |none=>rfl
  |some r=>exact abY fl t D pl l (av tr [r]) (r.v::σ) r.h'
theorem aqW {k:K} {D:List DOp} {pl fl:List (Nat×Nat)} (hk:k= .draw D pl fl) (s:St) (κn:Kt) (κx:Ex→Kt):
 kc C run lp k s κn κx=kcR κn κx (dr (abm C run fl s.t D pl D [] [] s.h)):=by
 subst hk;have hn:eQ C (.draw D pl fl):=by unfold eQ;trivial
 rw [mh _ hn,abY];rfl
theorem jx (σ:List AV) (h h':AH) (v:AV) (k:Tr→Option Rs):sRd σ h (some (.vh v h')) k=k ⟨σ,h,v,h⟩:=(rfl)
theorem lj (σ:List AV) (h h':AH) (v:AV) (k:Tr→Option Rs):sEf σ h (some (.vh v h')) k=bq (decide (h.length≤h'.length)) (k ⟨σ,h,v,h'⟩) none:=by
 rw [←ah h,←ah h',←cq];show au (bq (Nat.ble (ag h) (ag h')) (some _) none) k=_
 cases Nat.ble (ag h) (ag h')<;>rfl
theorem jZ (v:AV) (h:AH):kVH v h=some (.vh v h):=(rfl)
theorem ep (σ:List AV) (h h' h2:AH) (v:AV):aG ⟨σ,h,v,h'⟩ (some (.vh v h2))=AV.lt (ag h) v:=by
 show and (AV.lt (ag h) v) (AV.same v v)=_;rw [gG];simp
theorem nj (f:OpA):OK.f (.mk f)=f:=(rfl)
theorem sG (σ:List AV) (t:Tms) (i:Nat):ev C σ t (.st i)=oY σ i:=(rfl)
theorem sH (σ:List AV) (t:Tms) (i:Nat):ev C σ t (.tr i)=bc t i:=(rfl)
theorem pF (a:AV) (σ:List AV):oY (a::σ) 0=a:=(rfl)
theorem pf (a:AV) (σ:List AV) (i:Nat):oY (a::σ) (i+1)=oY σ i:=(rfl)
end
noncomputable section
def bS (C:Cx) (f:Nat):Code:=Option.rec (motive:=fun _=>Code) .skip (fun fn=>match fn.body with|some c=>c|none=>.skip) (C.fn f)
def aeq:Code→Code
 | .scope b=>aeq b
 |c=>c
def cSub (c:Code) (i:Nat):Code:=
 match aeq c with
 | .seq a b=>bq (Nat.beq i 0) a b
 | .cond _ a b=>bq (Nat.beq i 0) a b
 | .block _ b=>b
 | .loop b=>b
 |_=>.skip
def cAt (p:List Nat):Code→Code:=List.rec (motive:=fun _=>Code→Code) (fun c=>c) (fun i _ ih c=>ih (cSub c i)) p
def opsOf (c:Code):Array Oper:=
 match aeq c with
 | .region _ ops _=>ops
 |_=> #[]
end
section
variable {C:Cx} {run:Run} {lp:Lp}
theorem eW (p:List Nat) (f:Nat) (ps:List Nat) (hk:kAt p (kOf C f)= .draw (bZ C (opsOf (cAt p (bS C f))).toList (cr (opsOf (cAt p (bS C f))).toList) 0 (bo C (opsOf (cAt p (bS C f))).toList [] (opsOf (cAt p (bS C f))).toList)) (bX C (opsOf (cAt p (bS C f)))) (flL ps (opsOf (cAt p (bS C f))).toList)) (s:St) (κn:Kt) (κx:Ex→Kt):
 kc C run lp (kAt p (kOf C f)) s κn κx=kcR κn κx (dr (abm C run (flL ps (opsOf (cAt p (bS C f))).toList) s.t (bZ C (opsOf (cAt p (bS C f))).toList (cr (opsOf (cAt p (bS C f))).toList) 0 (bo C (opsOf (cAt p (bS C f))).toList [] (opsOf (cAt p (bS C f))).toList)) (bX C (opsOf (cAt p (bS C f)))) (bZ C (opsOf (cAt p (bS C f))).toList (cr (opsOf (cAt p (bS C f))).toList) 0 (bo C (opsOf (cAt p (bS C f))).toList [] (opsOf (cAt p (bS C f))).toList)) [] [] s.h)):=aqW hk s κn κx
end
section
variable {h:AH} {κ:Ka} {S S':Nat→Prop} {z:Nat} {v:AV} {rows:List (List AV)} {b cap y:Nat} {e:Bool} {junk:List AV}
theorem mb: ∀{rows:List (List AV)},(∀r∈rows,r.length=z)→rows.flatten.length=rows.length*z
 |[],_=>by simp
 |r::rows,hr=>by
  rw [BL,A7,mb fun x hx=>hr x (Bh _ hx),hr r (BB ..),Br,Ct];omega
theorem jf {α:Type} {l:List α} {i:Nat} {a:α} (e:l[i]? =some a): ∃A B,l=A++a::B∧A.length=i:=by
 obtain ⟨hi,rfl⟩:=Bc.1 e;exact ⟨l.take i,l.drop (i+1),by rw [List.getElem_cons_drop,CC],by rw [Bq];omega⟩
theorem mI {α:Type} (A B:List α) (a c:α):(A++a::B).set A.length c=A++c::B:=by
 rw [Dc _ _ (A9 _),C8];rfl
structure OwB (h:AH) (z:Nat) (v:AV) (rows:List (List AV)) (b cap:Nat) (e:Bool) (junk:List AV) (y:Nat):Prop where
 val:v= .slo b 0 rows.length cap z e
 blk:ab h b=some (.cells (rows.flatten++junk) y)
 fit:rows.length≤cap
 len:rows.flatten.length+junk.length=cap*z
theorem OwB.lt (o:OwB h z v rows b cap e junk y):b<h.length:=aJ o.blk
theorem OwB.len2 (o:OwB h z v rows b cap e junk y):(rows.flatten++junk).length=cap*z:=by rw [A7,o.len]
def OwR (h:AH) (S:Nat→Prop) (z:Nat) (v:AV) (rows:List (List AV)):Prop:=
 (∀r∈rows,r.length=z)∧((rows=[]∧v= .aa)∨ ∃b cap e junk y,S b∧OwB h z v rows b cap e junk y)
theorem OwR.nil:OwR h S z .aa []:=⟨by simp,.inl ⟨rfl,rfl⟩⟩
theorem OwR.mono {h':AH} (r:OwR h S z v rows) (m: ∀b,b<h.length→S b→S' b∧ab h' b=ab h b):OwR h' S' z v rows:=by
 obtain ⟨hr,r⟩:=r;refine ⟨hr,?_⟩;rcases r with r|⟨b,cap,e,junk,y,hs,o⟩
 ·exact .inl r
 ·obtain ⟨m1,m2⟩:=m b o.lt hs
  exact .inr ⟨b,cap,e,junk,y,m1,o.val,by rw [m2];exact o.blk,o.fit,o.len⟩
theorem OwR.bG (r:OwR h S z v rows) (h':AH) (κ:Ka):bG v h' κ=κ (.int 9223372036854775807 (rows.length:Int)) h':=by
 obtain ⟨_,⟨rfl,rfl⟩|⟨b,cap,e,junk,y,_,⟨rfl,_,_,_⟩⟩⟩:=r<;>rfl
theorem OwR.plain (r:OwR h S z v rows):v.plain=true:=by
 obtain ⟨_,⟨rfl,rfl⟩|⟨b,cap,e,junk,y,_,⟨rfl,_,_,_⟩⟩⟩:=r<;>rfl
theorem OwR.vlt (r:OwR h S z v rows):v.lt (ag h)=true:=by
 obtain ⟨_,⟨rfl,rfl⟩|⟨b,cap,e,junk,y,_,o⟩⟩:=r
 ·rfl
 ·have:=o.lt
  rw [o.val,uP,ah];exact decide_eq_true this
structure ElAt (h:AH) (z:Nat) (v:AV) (i:Nat) (q:List AV) (b:Nat):Prop where
 lt:b<h.length
 idx: ∀(k:Nat) (h':AH) (κ:Ka),bM z v (.int k (i:Int)) h' κ=κ (.pto b (i*z)) h'
 ldG: ∀κ:Ka,aF z (.pto b (i*z)) h κ=κ (.agg q) h
 ld1: ∀(j:Nat) (c:AV),q[j]? =some c→ ∀κ:Ka,ao (.pto b (i*z+j)) h κ=κ c h
theorem jm (A B:List (List AV)) (q junk:List AV):(A++q::B).flatten++junk=A.flatten++(q++(B.flatten++junk)):=by simp
theorem OwB.el (o:OwB h z v rows b cap e junk y) (hr: ∀r∈rows,r.length=z) {i:Nat} {q:List AV} (hq:rows[i]? =some q):ElAt h z v i q b:=by
 have hlt:=o.lt;obtain ⟨rfl,hb,hcap,hlen⟩:=o;have hi:i<rows.length:=(Bc.1 hq).1;have hql:q.length=z:=hr q (Bg hq);obtain ⟨A,B,rfl,hA⟩:=jf hq;have hAl:A.flatten.length=i*z:=by rw [mb fun r h=>hr r (by simp [h]),hA]
 refine ⟨hlt,fun k h' κ=>?_,fun κ=>?_,fun j c hj κ=>?_⟩
 ·rw [vn,bK hi,BE]
 ·rw [jJ,hb,aT]
  show bq (decide (i*z+z≤((A++q::B).flatten++junk).length)) (κ (.agg ((((A++q::B).flatten++junk).drop (i*z)).take z)) h) none=_;rw [jm,←hAl,CS,←hql,C2,bK (by simp)]
 ·have hjz:j<q.length:=(Bc.1 hj).1
  have:((A++q::B).flatten++junk)[i*z+j]? =some c:=by
   rw [jm,←hAl,Bl (by omega),BK,Bj hjz,hj]
  rw [lE,hb,aT];show au ((A++q::B).flatten++junk)[i*z+j]? (fun v=>κ v h)=_;rw [this];rfl
theorem OwR.el (r:OwR h S z v rows) {i:Nat} {q:List AV} (hq:rows[i]? =some q): ∃b,S b∧ElAt h z v i q b:=by
 obtain ⟨hr,⟨rfl,rfl⟩|⟨b,cap,e,junk,y,hs,o⟩⟩:=r
 ·simp at hq
 ·exact ⟨b,hs,o.el hr hq⟩
theorem OwB.stG (o:OwB h z v rows b cap e junk y) (hr: ∀r∈rows,r.length=z) {i:Nat} {q q':List AV} (hq:rows[i]? =some q) (hl:q'.length=z) (hp:aO q'=true):
 (∀κ:Ka,ay z (.pto b (i*z)) (.agg q') h κ=κ (.tup []) (h.set b (some (.cells ((rows.set i q').flatten++junk) y))))∧OwB (h.set b (some (.cells ((rows.set i q').flatten++junk) y))) z v (rows.set i q') b cap e junk y:=by
 have hlt:=o.lt;obtain ⟨rfl,hb,hcap,hlen⟩:=o;have hql:q.length=z:=hr q (Bg hq);obtain ⟨A,B,rfl,hA⟩:=jf hq;have hAl:A.flatten.length=i*z:=by rw [mb fun r h=>hr r (by simp [h]),hA]
 subst hA;rw [mI]
 constructor
 ·intro κ
  rw [qy,decide_eq_true hl,hp];show au (ab h b) _=_;rw [hb,aT];show bq (decide (A.length*z+q'.length≤((A++q::B).flatten++junk).length)) (κ (.tup []) (h.set b (some (.cells (((A++q::B).flatten++junk).take (A.length*z)++(q'++((A++q::B).flatten++junk).drop (A.length*z+q'.length))) y)))) none=_;rw [jm,jm,←hAl,C2,hl,←hql,←Bu,CS,CS,bK (by simp)]
 ·refine ⟨by simp,aq hlt _,by simpa using hcap,?_⟩
  rw [←hlen];simp [hl,hql]
theorem OwB.st1 (o:OwB h z v rows b cap e junk y) (hr: ∀r∈rows,r.length=z) {i j:Nat} {q:List AV} {c:AV} (hq:rows[i]? =some q) (hj:j<z) (hp:c.plain=true):
 (∀κ:Ka,bQ (.pto b (i*z+j)) c h κ=κ (.tup []) (h.set b (some (.cells ((rows.set i (q.set j c)).flatten++junk) y))))∧OwB (h.set b (some (.cells ((rows.set i (q.set j c)).flatten++junk) y))) z v (rows.set i (q.set j c)) b cap e junk y:=by
 have hlt:=o.lt;obtain ⟨rfl,hb,hcap,hlen⟩:=o;have hql:q.length=z:=hr q (Bg hq);obtain ⟨A,B,rfl,hA⟩:=jf hq;have hAl:A.flatten.length=i*z:=by rw [mb fun r h=>hr r (by simp [h]),hA]
 subst hA;rw [mI]
 constructor
 ·intro κ
  rw [fM,hp];show au (ab h b) _=_;rw [hb,aT];show au ((A++q::B).flatten++junk)[A.length*z+j]? (fun _=>κ (.tup []) (h.set b (some (.cells (((A++q::B).flatten++junk).set (A.length*z+j) c) y))))=_
  have:((A++q::B).flatten++junk)[A.length*z+j]? =some q[j]:=by
   rw [jm,←hAl,Bl (by omega),BK,Bj (by omega)];exact Bd _
  rw [this,aT,jm,jm,←hAl,Dc _ _ (by omega),BK,List.set_append_left _ _ (by omega)]
 ·refine ⟨by simp,aq hlt _,by simpa using hcap,?_⟩
  rw [←hlen];simp
theorem appZ (ty:Nat) {by_:Nat} (hby:by_≤1000) (o:OwB h z v rows b cap e junk y) (hr: ∀r∈rows,r.length=z) {x:AV} {q:List AV} (hx1:qB x=some 1) (hx2:eo h z 1 x=some q) (hq:q.length=z) (hp:aO q=true) (hl:rows.length≤100000):
 ∃v' h' b' cap' e' junk' y',(∀κ:Ka,gg ty z by_ v x h κ=κ v' h')∧OwB h' z v' (rows++[q]) b' cap' e' junk' y'∧(b'=b∨b'=h.length)∧h.length≤h'.length∧(∀i,i≠b→i<h.length→ab h' i=ab h i)∧
  (rows.length=cap→b'=h.length∧junk'=[]∧cap'=rows.length+1∧e'=false∧h'.length=h.length+1):=by
 have hlt:=o.lt;have hlen2:=o.len2;have hrl:=mb hr;obtain ⟨rfl,hb,hcap,hlen⟩:=o;have step: ∀κ:Ka,gg ty z by_ (.slo b 0 rows.length cap z e) x h κ=apC ty z by_ 1 q h κ b 0 rows.length cap e (rows.flatten++junk) y:=by
  intro κ;unfold gg;rw [hx1,aT,hx2,aT,hp,lJ,ah,hq,show Nat.mul 1 z=z from Nat.one_mul _,decide_eq_true rfl];show bq (Nat.beq z z) (eP h b (apC ty z by_ 1 q h κ b 0 rows.length cap e) _) none=_;rw [lJ,decide_eq_true rfl];show eP h b _ _=_;unfold eP;rw [hb];rfl
 by_cases hroom:rows.length+1≤cap
 ·have hnz:rows.length*z+z≤cap*z:=by rw [←Ct];exact BQ _ hroom
  refine ⟨.slo b 0 (rows.length+1) cap z e,h.set b (some (.cells (rows.flatten++(q++junk.drop z)) y)),b,cap,e,junk.drop z,y,fun κ=>?_,⟨by simp,?_,by simpa using hroom,?_⟩,.inl rfl,by simp,fun i hi hl=>by rw [ae (by omega)],fun c=>by omega⟩
  ·rw [step]
   unfold apC;rw [cq,bK (show Nat.add rows.length 1≤cap from hroom),cq,ah,hlen2,bK (by show 0+(rows.length+1)*z≤cap*z;rw [Ct];omega)];unfold fK;rw [cK,aS,bt,aV,aV,ah,hq];show κ (.slo b 0 (rows.length+1) cap z e) (h.set b (some (.cells ((rows.flatten++junk).take (0+rows.length*z)++(q++(rows.flatten++junk).drop (0+rows.length*z+z))) y)))=_;rw [BE,←hrl,C2,←Bu,CS]
  ·rw [aq hlt];simp
  ·simp only [Ci,BL,List.flatten_nil,Bx,A7,Bi,hq]
   omega
 ·have hlb:(bq e h (h.set b none)).length=h.length:=by cases e<;>simp [bq]
  refine ⟨.slo h.length 0 (rows.length+1) (rows.length+1) z false,(bq e h (h.set b none))++[some (.cells (rows.flatten++q) (bq (Nat.beq y ty) ty 0))],h.length,rows.length+1,false,[],bq (Nat.beq y ty) ty 0,fun κ=>?_,⟨by simp,?_,by simp,?_⟩,.inr rfl,by rw [A7,hlb];omega,fun i hi hl=>?_,fun _=>⟨rfl,rfl,rfl,rfl,by rw [A7,hlb];rfl⟩⟩
  ·rw [step]
   unfold apC;rw [cq,jk (show ¬Nat.add rows.length 1≤cap from hroom)];have r1:and (and (kL by_ (Nat.add rows.length 1)) (Nat.ble (Nat.add 0 (Nat.mul rows.length z)) (ag (rows.flatten++junk)))) (or e (Nat.beq 0 0))=true:=by
    unfold kL;rw [cq,cq,cq,ah,hlen2,decide_eq_true (by show (rows.length+1)*by_≤140737488355328;exact Bo (Nat.mul_le_mul (show rows.length+1≤100001 by omega) hby) (by decide)),decide_eq_true (by show rows.length+1≤140737488355328;omega),decide_eq_true (by show 0+rows.length*z≤cap*z;rw [BE];exact BQ _ hcap)]
    cases e<;>rfl
   rw [r1,aA,ah,aV,aV,cK,aS,bt];show κ (.slo h.length 0 (rows.length+1) (rows.length+1) z false) (bq e h (h.set b none)++[some (.cells (List.take (rows.length*z) (List.drop 0 (rows.flatten++junk))++q) (bq (Nat.beq y ty) ty 0))])=_;rw [BF,←hrl,C2]
  ·rw [←hlb,aD];simp
  ·simp only [Ci,BL,List.flatten_nil,Bx,A7,hq,hrl];simp [Ct]
  ·rw [ak (by rw [hlb];exact hl)]
   cases e with
   |true=>rfl
   |false=>show ab (h.set b none) i=_;rw [ae (by omega)]
theorem aug (ty:Nat) {by_:Nat} (hby:by_≤1000) (hz:z≤64) {x:AV} {q:List AV} (hx1:qB x=some 1) (hx2:eo h z 1 x=some q) (hq:q.length=z) (hp:aO q=true):
 (∀κ:Ka,gg ty z by_ .aa x h κ=κ (.slo h.length 0 1 1 z false) (h++[some (.cells q ty)]))∧OwB (h++[some (.cells q ty)]) z (.slo h.length 0 1 1 z false) [q] h.length 1 false [] ty:=by
 refine ⟨fun κ=>?_,rfl,?_,by simp,by simp [hq]⟩
 ·unfold gg
  rw [hx1,aT,hx2,aT,hp,lJ,ah,hq,show Nat.mul 1 z=z from Nat.one_mul _,decide_eq_true rfl];show vc ty z by_ 1 q .aa h κ=_;unfold vc
  have:kL by_ 1=true:=by
   unfold kL;rw [cq,cq,decide_eq_true (show Nat.mul 1 by_≤140737488355328 by show 1*by_≤_;omega)];rfl
  rw [this];show κ (.slo (ag h) 0 1 1 z false) (av h [some (sQ z 1 q ty)])=_;unfold sQ;rw [wG,decide_eq_false (by omega),ah,aV];rfl
 ·rw [aD];simp
theorem OwB.cut (o:OwB h z v rows b cap e junk y) (hr: ∀r∈rows,r.length=z) (h0:0<cap) {m:Nat} (hm:m≤rows.length) (k:Nat):
 ∃v',(∀(h':AH) (κ:Ka),slS z v none (some (.int k (m:Int))) none h' κ=κ v' h')∧OwB h z v' (rows.take m) b cap e ((rows.drop m).flatten++junk) y:=by
 obtain ⟨rfl,hb,hcap,hlen⟩:=o;refine ⟨.slo b 0 m cap z e,fun h' κ=>?_,by rw [Bq,Da hm],?_,by rw [Bq];omega,?_⟩
 ·show oP rows.length cap none (some (.int k (Int.ofNat m))) none (fun l u mm=>bq (Nat.beq z z) (bq (Nat.beq l mm) (κ .sle h') (κ (.slo b (Nat.add 0 (Nat.mul l z)) (Nat.sub u l) (Nat.sub mm l) z (or e false)) h')) none)=_
  show bq (and (and (Nat.ble 0 m) (Nat.ble m cap)) (and (Nat.ble cap cap) (or (not false) true))) (bq (Nat.beq z z) (bq (Nat.beq 0 cap) (κ .sle h') (κ (.slo b (Nat.add 0 (Nat.mul 0 z)) (Nat.sub m 0) (Nat.sub cap 0) z (or e false)) h')) none) none=_;rw [cq,cq,cq,lJ,lJ,decide_eq_true (Cm _),decide_eq_true (show m≤cap by omega),decide_eq_true (A9 _),decide_eq_true rfl,decide_eq_false (show ¬0=cap by omega)];show κ (.slo b (Nat.add 0 (Nat.mul 0 z)) (Nat.sub m 0) (Nat.sub cap 0) z (or e false)) h'=_;rw [show Nat.mul 0 z=0 from Nat.zero_mul _,Dq];rfl
 ·rw [hb,←BJ,←Ci,CC]
 ·rw [←hlen,A7,←Cq,←A7,←Ci,CC]
theorem OwR.cut (r:OwR h S z v rows) (hz:0<z) (hne:rows≠[]) {m:Nat} (hm:m≤rows.length) (k:Nat):
 ∃v',(∀(h':AH) (κ:Ka),slS z v none (some (.int k (m:Int))) none h' κ=κ v' h')∧OwR h S z v' (rows.take m):=by
 obtain ⟨hr,⟨rfl,_⟩|⟨b,cap,e,junk,y,hs,o⟩⟩:=r
 ·exact absurd rfl hne
 ·have h0:0<cap:=by
   have:=List.length_pos_iff.2 hne
   have:=o.fit;omega
  obtain ⟨v',e1,o'⟩:=o.cut hr h0 hm k;exact ⟨v',e1,fun r h=>hr r (BX h),.inr ⟨b,cap,e,_,y,hs,o'⟩⟩
theorem OwR.app (ty:Nat) {by_:Nat} (hby:by_≤1000) (hz:z≤64) (r:OwR h S z v rows) {x:AV} {q:List AV} (hx1:qB x=some 1) (hx2:eo h z 1 x=some q) (hq:q.length=z) (hp:aO q=true) (hl:rows.length≤100000):
 ∃v' h',(∀κ:Ka,gg ty z by_ v x h κ=κ v' h')∧OwR h' (fun i=>S i∨i=h.length) z v' (rows++[q])∧h.length≤h'.length∧(∀i,¬S i→i<h.length→ab h' i=ab h i):=by
 obtain ⟨hr,⟨rfl,rfl⟩|⟨b,cap,e,junk,y,hs,o⟩⟩:=r
 ·obtain ⟨e1,o⟩:=aug (z:=z) ty hby hz hx1 hx2 hq hp
  exact ⟨_,_,e1,⟨by simpa using hq,.inr ⟨_,_,_,_,_,.inr rfl,o⟩⟩,by simp,fun i _ hi=>ak hi _⟩
 ·obtain ⟨v',h',b',cap',e',junk',y',e1,o',hb',hl',hf,_⟩:=appZ ty hby o hr hx1 hx2 hq hp hl
  refine ⟨v',h',e1,⟨fun r hm=>?_,.inr ⟨b',cap',e',junk',y',?_,o'⟩⟩,hl',fun i hi hlt=>hf i (fun c=>hi (c▸hs)) hlt⟩
  ·rcases Cd.1 hm with hm|hm
   ·exact hr r hm
   ·obtain rfl:r=q:=by simpa using hm
    exact hq
  ·rcases hb' with rfl|rfl
   ·exact .inl hs
   ·exact .inr rfl
end
section
variable {h:AH} {S S':Nat→Prop} {v:AV} {cs:List AV}
def Ow1 (h:AH) (S:Nat→Prop) (v:AV) (cs:List AV):Prop:=
 (cs=[]∧v= .aa)∨ ∃b cap e junk y,S b∧v= .slo b 0 cs.length cap 1 e∧ab h b=some (.cells (cs++junk) y)∧cs.length+junk.length=cap
theorem abo: ∀cs:List AV,(cs.map fun c=>[c]).flatten=cs
 |[]=>rfl
 |c::cs=>by rw [BS,BL,abo cs];rfl
theorem one1: ∀r∈cs.map fun c=>[c],r.length=1:=by
 intro r hr;obtain ⟨c,_,rfl⟩:=Cg.1 hr;rfl
theorem Ow1.toR (o:Ow1 h S v cs):OwR h S 1 v (cs.map fun c=>[c]):=by
 refine ⟨one1,?_⟩;rcases o with ⟨rfl,rfl⟩|⟨b,cap,e,junk,y,hs,rfl,hb,hl⟩
 ·exact .inl ⟨rfl,rfl⟩
 ·exact .inr ⟨b,cap,e,junk,y,hs,by rw [BI],by rw [abo];exact hb,by rw [BI];omega,by rw [abo,hl,BW]⟩
theorem OwR.to1 (o:OwR h S 1 v (cs.map fun c=>[c])):Ow1 h S v cs:=by
 obtain ⟨_,⟨e,rfl⟩|⟨b,cap,e,junk,y,hs,o⟩⟩:=o
 ·exact .inl ⟨Dm.1 e,rfl⟩
 ·refine .inr ⟨b,cap,e,junk,y,hs,by rw [o.val,BI],by have:=o.blk;rw [abo] at this;exact this,?_⟩
  have:=o.len
  rw [abo,BW] at this;exact this
theorem Ow1.at (o:Ow1 h S v cs):cW h v cs:=by
 rcases o with ⟨rfl,rfl⟩|⟨b,cap,e,junk,y,hs,rfl,hb,hl⟩
 ·exact .inl ⟨rfl,.inl rfl⟩
 ·exact .inr (.inr ⟨b,0,cap,_,y,e,rfl,hb,by rw [BF,C2],by simp⟩)
theorem Ow1.mono {h':AH} (r:Ow1 h S v cs) (m: ∀b,b<h.length→S b→S' b∧ab h' b=ab h b):Ow1 h' S' v cs:=(r.toR.mono m).to1
theorem Ow1.plain (o:Ow1 h S v cs):v.plain=true:=o.at.plain
theorem Ow1.app (ty:Nat) {by_:Nat} (hby:by_≤1000) (r:Ow1 h S v cs) {x c:AV} (hx:cW h x [c]) (hp:c.plain=true) (hl:cs.length≤100000):
 ∃v' h',(∀κ:Ka,gg ty 1 by_ v x h κ=κ v' h')∧Ow1 h' (fun i=>S i∨i=h.length) v' (cs++[c])∧h.length≤h'.length∧(∀i,¬S i→i<h.length→ab h' i=ab h i):=by
 obtain ⟨v',h',e1,o,l,f⟩:=r.toR.app (z:=1) (q:=[c]) ty hby (by decide) hx.qB hx.elems rfl (by show and c.plain true=true;rw [hp];rfl) (by rw [BI];exact hl)
 refine ⟨v',h',e1,OwR.to1 ?_,l,f⟩;rw [Co];exact o
theorem Ow1.set (r:Ow1 h S v cs) {i:Nat} {c:AV} (hc:cs[i]? =some c):
 ∃p,(∀(k:Nat) (h':AH) (κ:Ka),bM 1 v (.int k (i:Int)) h' κ=κ p h')∧p.lt (ag h)=true∧(∀κ:Ka,ao p h κ=κ c h)∧
  ∀c':AV,c'.plain=true→ ∃h',(∀κ:Ka,bQ p c' h κ=κ (.tup []) h')∧Ow1 h' S v (cs.set i c')∧h'.length=h.length∧ ∀j,¬S j→ab h' j=ab h j:=by
 rcases r with ⟨rfl,rfl⟩|⟨b,cap,e,junk,y,hs,rfl,hb,hl⟩
 ·simp at hc
 ·have hi:i<cs.length:=(Bc.1 hc).1
  have hj:(cs++junk)[i]? =some c:=by rw [Bj hi];exact hc
  refine ⟨.pto b i,fun k h' κ=>?_,by rw [fE,ah];exact decide_eq_true (aJ hb),fun κ=>?_,fun c' hp=>⟨h.set b (some (.cells (cs.set i c'++junk) y)),fun κ=>?_,.inr ⟨b,cap,e,junk,y,hs,by rw [Bb],by rw [aq (aJ hb)],by rw [Bb];exact hl⟩,by rw [Bb],fun j hj=>ae (fun cc:b=j=>hj (cc▸hs)) _⟩⟩
  ·rw [vn,bK hi,BE,BW]
  ·rw [lE,hb,aT]
   show au (cs++junk)[i]? (fun v=>κ v h)=_;rw [hj];rfl
  ·rw [fM,hp,hb]
   show au (cs++junk)[i]? (fun _=>κ (.tup []) (h.set b (some (.cells ((cs++junk).set i c') y))))=_;rw [hj,aT,List.set_append_left _ _ hi]
end
inductive PT where
 |nd (num:Nat) (blank:Bool) (data:List Nat) (kids:List PT)
def jg (h:AH) (S:Nat→Prop) (v:AV) (d:List Nat):Prop:=(d=[]∧v= .aa)∨(d≠[]∧ ∃b e y,v= .slo b 0 d.length d.length 1 e∧S b∧ab h b=some (.cells (aI d) y))
mutual
/-- Four cells are a tree, in blocks of such names. -/
def eX (h:AH) (S:Nat→Prop) (q:List AV):PT→Prop
 | .nd n b d ks=>∃dv kv,q=[.int 18446744073709551615 (n:Int),.bool b,dv,kv]∧jg h S dv d∧((ks=[]∧kv= .aa)∨ ∃kb e rows y,kv= .slo kb 0 ks.length ks.length 4 e∧S kb∧ab h kb=some (.cells rows.flatten y)∧cH h (fun b=>S b∧b<kb) rows ks)
def cH (h:AH) (S:Nat→Prop) (rows:List (List AV)):List PT→Prop
 |[]=>rows=[]
 |k::ks=>∃q r,rows=q::r∧eX h S q k∧cH h S r ks
end
theorem jg.mono {h h':AH} {S S':Nat→Prop} {v:AV} {d:List Nat} (m: ∀b,b<h.length→S b→S' b∧ab h' b=ab h b) (D:jg h S v d):jg h' S' v d:=by
 rcases D with D|⟨d0,b,e,y,e1,e2,e3⟩
 ·exact .inl D
 ·obtain ⟨m1,m2⟩:=m b (aJ e3) e2
  exact .inr ⟨d0,b,e,y,e1,m1,by rw [m2];exact e3⟩
theorem jg.at {h:AH} {S:Nat→Prop} {v:AV} {d:List Nat} (D:jg h S v d):cW h v (aI d):=by
 rcases D with ⟨rfl,rfl⟩|⟨_,b,e,y,rfl,_,e3⟩
 ·exact .inl ⟨rfl,.inl rfl⟩
 ·refine .inr (.inr ⟨b,0,d.length,aI d,y,e,by rw [ba],e3,?_,by rw [ba];omega⟩)
  rw [BF,Cc]
mutual
theorem eX.mono {h h':AH}: ∀(t:PT) {S S':Nat→Prop} {q:List AV},(∀b,b<h.length→S b→S' b∧ab h' b=ab h b)→eX h S q t→eX h' S' q t
 | .nd n b d ks,S,S',q,m,T=>by
   unfold eX at T ⊢;obtain ⟨dv,kv,e1,e2,e3⟩:=T;refine ⟨dv,kv,e1,e2.mono m,?_⟩;rcases e3 with e3|⟨kb,e,rows,y,k1,k2,k3,k4⟩
   ·exact .inl e3
   ·obtain ⟨m1,m2⟩:=m kb (aJ k3) k2
    exact .inr ⟨kb,e,rows,y,k1,m1,by rw [m2];exact k3,cH.mono ks (fun b hb hs=>⟨⟨(m b hb hs.1).1,hs.2⟩,(m b hb hs.1).2⟩) k4⟩
theorem cH.mono {h h':AH}: ∀(ks:List PT) {S S':Nat→Prop} {rows:List (List AV)},(∀b,b<h.length→S b→S' b∧ab h' b=ab h b)→cH h S rows ks→cH h' S' rows ks
 |[],S,S',rows,m,T=>by unfold cH at T ⊢;exact T
 |k::ks,S,S',rows,m,T=>by
  unfold cH at T ⊢;obtain ⟨q,r,e,a,b⟩:=T;exact ⟨q,r,e,eX.mono k m a,cH.mono ks m b⟩
end
theorem eX.four {h:AH} {S:Nat→Prop} {q:List AV} {t:PT} (T:eX h S q t):q.length=4∧aO q=true:=by
 cases t with
 |nd n b d ks=>
  unfold eX at T;obtain ⟨dv,kv,rfl,e2,e3⟩:=T;refine ⟨rfl,?_⟩;have h1:dv.plain=true:=e2.at.plain;have h2:kv.plain=true:=by
   rcases e3 with ⟨_,rfl⟩|⟨kb,e,rows,y,rfl,_⟩<;>rfl
  show and true (and true (and dv.plain (and kv.plain true)))=true;rw [h1,h2];rfl
theorem cH.rows {h:AH} {S:Nat→Prop}: ∀{ks:List PT} {rows:List (List AV)},cH h S rows ks→rows.length=ks.length∧ ∀r∈rows,r.length=4
 |[],rows,T=>by unfold cH at T;subst T;simp
 |k::ks,rows,T=>by
  unfold cH at T;obtain ⟨q,r,rfl,a,b⟩:=T;have ih:=cH.rows b;refine ⟨by simp [ih.1],fun x hx=>?_⟩;rcases Bv.1 hx with rfl|hx
  ·exact a.four.1
  ·exact ih.2 x hx
theorem cH.app {h:AH} {S:Nat→Prop} {q:List AV} {t:PT} (a:eX h S q t): ∀{ks:List PT} {rows:List (List AV)},cH h S rows ks→cH h S (rows++[q]) (ks++[t])
 |[],rows,T=>by
  unfold cH at T;subst T
  show cH h S [q] [t];unfold cH;exact ⟨q,[],rfl,a,by unfold cH;rfl⟩
 |k::ks,rows,T=>by
  unfold cH at T;obtain ⟨p,r,rfl,c,d⟩:=T;show cH h S (p::(r++[q])) (k::(ks++[t]));unfold cH;exact ⟨p,_,rfl,c,cH.app a d⟩
theorem cH.get {h:AH} {S:Nat→Prop}: ∀{ks:List PT} {rows:List (List AV)} {i:Nat} {t:PT},cH h S rows ks→ks[i]? =some t→ ∃q,rows[i]? =some q∧eX h S q t
 |[],rows,i,t,T,e=>by simp at e
 |k::ks,rows,0,t,T,e=>by
  unfold cH at T;obtain ⟨q,r,rfl,a,b⟩:=T;obtain rfl:k=t:=by simpa using e
  exact ⟨q,rfl,a⟩
 |k::ks,rows,i+1,t,T,e=>by
  unfold cH at T;obtain ⟨q,r,rfl,a,b⟩:=T;obtain ⟨q',e1,e2⟩:=cH.get b (by simpa using e);exact ⟨q',by simpa using e1,e2⟩
structure PS where
 kind:Nat
 a:Int
 b:Int
 flag:Bool
 mn:Nat
 mx:Nat
 mul:Nat
 add:Nat
 ways:List (Nat×Nat)
 bytes:List Nat
structure PR where
 at_:Nat
 last:Nat
 parts:Nat
 slots:List Nat
 stack:List PT
 counts:List Nat
 calls:List Nat
 code:Nat
 fat:Nat
structure PC where
 data:List Nat
 depth:Nat
 tokens:Nat
def PT.add (u t:PT):PT:=match u with
 | .nd n b d ks=>.nd n b d (ks++[t])
def PR.cd (s:PR) (e a:Nat):PR:=if s.code=0 then {s with code:=e,fat:=a} else s
def PR.open_ (c:PC) (s:PR):PR:=
 (fun s1:PR=>{s1 with parts:=s.parts+1,stack:=.nd 0 false [] []::s.stack}) (if c.depth<s.stack.length then s.cd 218 s.at_ else if c.tokens≤s.parts then s.cd 219 s.at_ else s)
def PR.close (s:PR):PR:=match s.stack with
 |t::u::r=>{s with stack:=u.add t::r}
 |_=>s
def PR.leaf (s:PR) (t:PT):PR:=match s.stack with
 |_::u::r=>{s with stack:=u.add t::r}
 |_=>s
def PR.take (c:PC) (s:PR) (n from_:Nat):List Nat×PR:=
 if 4611686018427387904-from_<n then ([],s.cd 214 from_) else if c.data.length-s.at_<n then ([],s.cd 10 c.data.length) else ((c.data.drop s.at_).take n,{s with at_:=s.at_+n})
def PR.byte (c:PC) (s:PR):Nat×PR:=match c.data[s.at_]? with
 |none=>(0,s.cd 10 c.data.length)
 |some b=>(b,{s with at_:=s.at_+1})
def PR.u9 (c:PC) (len:Bool):Nat→Nat→Nat→PR→Nat×PR
 |0,_,_,s=>(0,s)
 |k+1,acc,cnt,s=>if s.code≠0 then (0,s) else
  if (s.byte c).2.code≠0 then (0,(s.byte c).2) else
  if cnt=9∧1<(s.byte c).1 then (0,(s.byte c).2.cd 20 s.last) else
  if 128≤(s.byte c).1 then PR.u9 c len k (acc+(s.byte c).1%128*128^cnt) (cnt+1) (s.byte c).2 else
  if len=false∧(s.byte c).1=0∧1≤cnt then (0,(s.byte c).2.cd 21 s.last) else
  (acc+(s.byte c).1%128*128^cnt,(s.byte c).2)
def beN (l:List Nat):Nat:=l.foldl (fun n c=>n*256+c) 0
def mU (little:Bool) (l:List Nat):Nat:=beN (if little then l.reverse else l)
def PR.oB (s:PR) (p:PS) (n:Nat):PR:=
 (fun s1:PR=>(fun s2:PR=>if s2.code=0 then s2.leaf (.nd n false [] []) else s2) (if 0≤p.b then {s1 with slots:=s1.slots.set p.b.toNat n} else s1)) (if s.code=0∧ ¬(p.mn≤n∧n≤p.mx) then s.cd 210 s.last else s)
def PR.number (c:PC) (p:PS) (s:PR):PR:=
 (fun s1:PR=>if s1.code≠0 then s1 else (fun s2:PR=>if p.kind=3 then (s2.take c p.a.toNat s2.at_).2.oB p (mU p.flag (s2.take c p.a.toNat s2.at_).1) else (s2.u9 c p.flag 12 0 0).2.oB p (s2.u9 c p.flag 12 0 0).1) {s1 with last:=s1.at_}) (s.open_ c)
def PR.many (p:PS) (s:PR):Nat:=if p.a<0 then p.add else s.slots.getD p.a.toNat 0
def PR.wo (c:PC) (p:PS) (s:PR):PR:=
 (fun s1:PR=>if s1.code≠0 then s1 else (s1.take c (s1.many p) s1.at_).2.leaf (.nd 0 false (s1.take c (s1.many p) s1.at_).1 [])) (s.open_ c)
def PR.pick (p:PS) (s:PR):Nat×PR:=
 match p.ways.find? (fun w=>w.1=(if p.add=0 then s.slots.getD p.a.toNat 0 else s.slots.getD p.a.toNat 0%p.add)) with
 |some w=>(w.2,s)
 |none=>if p.b<0 then (0,s.cd 213 s.at_) else (p.b.toNat,s)
def PT.num (t:PT) (n:Nat):PT:=match t with
 | .nd _ b d ks=>.nd n b d ks
def PR.choose (c:PC) (p:PS) (s:PR):Nat×PR:=
 (fun s1:PR=>if s1.code≠0 then (0,s1) else if (s1.byte c).2.code≠0 then (0,(s1.byte c).2) else
  (fun k:Nat=>if k=0 then (0,s1.cd 212 s1.at_) else ((p.ways.getD (k-1) (0,0)).2,{s1 with stack:=match s1.stack with|t::r=>t.num (k-1)::r|[]=>[]})) (p.bytes.getD (s1.byte c).1 0)) (s.open_ c)
def PR.step (c:PC) (p:PS) (i:Nat) (s:PR):Option Nat×PR:=
 if p.kind=1 then (some (i+1),s.open_ c)
 else if p.kind=2 then (some (i+1),s.close)
 else if p.kind=3∨p.kind=4 then (some (i+1),s.number c p)
 else if p.kind=6 then (some (i+1),s.wo c p)
 else if p.kind=9 then (some (i+1),{s.open_ c with counts:=s.many p::s.counts})
 else if p.kind=11 then (some p.a.toNat,s)
 else if p.kind=10 then match s.counts with
  |[]=>(none,s)
  |n::r=>if n=0 then (some p.a.toNat,{s with counts:=r}) else (some (i+1),{s with counts:=(n-1)::r})
 else if p.kind=12 then if s.at_=c.data.length then (some p.a.toNat,s) else (some (i+1),s)
 else if p.kind=13 then (some (s.pick p).1,(s.pick p).2)
 else if p.kind=14 then (some (s.choose c p).1,(s.choose c p).2)
 else if p.kind=15 then (some p.a.toNat,{s with calls:=(i+1)::s.calls})
 else if p.kind=16 then match s.calls with
  |[]=>(none,s)
  |n::r=>(some n,{s with calls:=r})
 else (none,s)
def U64 (n:Nat):AV:=.int 18446744073709551615 (n:Int)
def N64 (n:Nat):AV:=.int 9223372036854775807 (n:Int)
structure RC where
 p0:AV
 p1:AV
 p2:AV
 p3:AV
 p4:AV
 p5:AV
 dv:AV
 inp:Nat
 sm:AV
def rdL (K:RC) (c:PC) (s:PR) (stp:Int) (sl st ct cl:AV):List AV:=
 [K.p0,K.p1,K.p2,K.p3,K.p4,K.p5,K.dv,N64 K.inp,N64 c.depth,N64 c.tokens,N64 s.at_,N64 s.last,N64 s.parts,.int 9223372036854775807 stp,sl,K.sm,st,.aa,ct,cl,N64 s.code,N64 s.fat]
def nN (h:AH) (kd:Nat→Nat):List (List AV)→List PT→Prop
 |[],[]=>True
 |q::Q,t::r=>eX h (fun b=>kd b=6+r.length) q t∧nN h kd Q r
 |_,_=>False
theorem nN.len {h:AH} {kd:Nat→Nat}: ∀{Q:List (List AV)} {r:List PT},nN h kd Q r→Q.length=r.length
 |[],[],_=>rfl
 |[],_::_,x=>x.elim
 |_::_,[],x=>x.elim
 |_::_,_::_,x=>by simp [nN.len x.2]
theorem nN.mono {h h':AH} {kd kd':Nat→Nat}: ∀{Q:List (List AV)} {r:List PT},(∀b,b<h.length→6≤kd b→kd b<6+r.length→kd' b=kd b∧ab h' b=ab h b)→nN h kd Q r→nN h' kd' Q r
 |[],[],_,_=>trivial
 |[],_::_,_,x=>x.elim
 |_::_,[],_,x=>x.elim
 |q::Q,t::r,m,x=>⟨x.1.mono t fun b hb hs=>by
   have:=m b hb (by omega) (by simp;omega)
   exact ⟨by rw [this.1];exact hs,this.2⟩,nN.mono (fun b hb h1 h2=>m b hb h1 (by simp;omega)) x.2⟩
def wJ (m:Nat) (h:AH) (v:AV) (cs:List AV):Prop:=cO v cs∨ ∃b o cap e row y,v= .slo b o cs.length cap 1 e∧b<m∧cs.length≤cap∧ab h b=some (.cells row y)∧(row.drop o).take cs.length=cs∧o+cs.length≤row.length
theorem wJ.at {m:Nat} {h:AH} {v:AV} {cs:List AV} (d:wJ m h v cs):cW h v cs:=by
 rcases d with d|⟨b,o,cap,e,row,y,rfl,_,_,hb,hc,hd⟩
 ·exact d.at h
 ·exact .inr (.inr ⟨b,o,cap,row,y,e,rfl,hb,hc,hd⟩)
theorem wJ.frm {m:Nat} {h h':AH} {v:AV} {cs:List AV} (d:wJ m h v cs) (f: ∀i,i<m→ab h' i=ab h i):wJ m h' v cs:=by
 rcases d with d|⟨b,o,cap,e,row,y,rfl,hm,hcap,hb,hc,hd⟩
 ·exact .inl d
 ·exact .inr ⟨b,o,cap,e,row,y,rfl,hm,hcap,by rw [f b hm];exact hb,hc,hd⟩
theorem wJ.cut {m:Nat} {h:AH} {v:AV} {cs:List AV} (d:wJ m h v cs) {l u:Nat} (h1:l≤u) (h2:u≤cs.length) (k k':Nat):
 ∃v',(∀(h':AH) (κ:Ka),slS 1 v (some (.int k (l:Int))) (some (.int k' (u:Int))) none h' κ=κ v' h')∧cW h v' ((cs.drop l).take (u-l)):=by
 have hlen:((cs.drop l).take (u-l)).length=u-l:=by rw [Bq,Bi];omega
 rcases d with d|⟨b,o,cap,e,row,y,rfl,hm,hcap,hb,hc,hd⟩
 ·by_cases hne:cs=[]
  ·subst hne
   have hu:u=0:=by simpa using h2
   have hl:l=0:=by omega
   subst hu;subst hl
   rcases d with ⟨_,rfl|rfl⟩|rfl
   ·exact ⟨.aa,fun h' κ=>rfl,.inl ⟨rfl,.inl rfl⟩⟩
   ·exact ⟨.sle,fun h' κ=>rfl,.inl ⟨rfl,.inr rfl⟩⟩
   ·exact ⟨.slp [] 0,fun h' κ=>rfl,.inr (.inl ⟨[],rfl,rfl⟩)⟩
  ·refine ⟨_,fun h' κ=>d.cut hne h1 h2 k k' h' κ,.inr (.inl ⟨_,by rw [hlen],by rw [Ch (A9 _)]⟩)⟩
 ·have step: ∀(h':AH) (κ:Ka),slS 1 (.slo b o cs.length cap 1 e) (some (.int k (l:Int))) (some (.int k' (u:Int))) none h' κ=bq (decide (l=cap)) (κ .sle h') (κ (.slo b (o+l) (u-l) (cap-l) 1 e) h'):=fun h' κ=>by
   show bq (and (and (Nat.ble l u) (Nat.ble u cap)) (and (Nat.ble cap cap) (or (not false) true))) (bq (Nat.beq 1 1) (bq (Nat.beq l cap) (κ .sle h') (κ (.slo b (Nat.add o (Nat.mul l 1)) (Nat.sub u l) (Nat.sub cap l) 1 (or e false)) h')) none) none=_;rw [cq,cq,cq,lJ,lJ,decide_eq_true h1,decide_eq_true (show u≤cap by omega),decide_eq_true (A9 _),decide_eq_true rfl,Dq,show Nat.mul l 1=l from BW _];rfl
  by_cases hlc:l=cap
  ·refine ⟨.sle,fun h' κ=>by rw [step,decide_eq_true hlc];rfl,.inl ⟨?_,.inr rfl⟩⟩
   exact B7.1 (by rw [hlen];omega)
  ·refine ⟨.slo b (o+l) (u-l) (cap-l) 1 e,fun h' κ=>by rw [step,decide_eq_false hlc];rfl,.inr (.inr ⟨b,o+l,cap-l,row,y,e,by rw [hlen],hb,?_,by rw [hlen];omega⟩)⟩
   rw [hlen,←Bu]
   conv=>rhs;rw [←hc]
   rw [List.drop_take,List.take_take,Da (by omega)]
structure RS (m:Nat) (K:RC) (kd:Nat→Nat) (h:AH) (p:Nat) (c:PC) (s:PR):Prop where
 ex: ∃(stp:Int) (y:Nat) (sl st ct cl:AV) (Q:List (List AV)),ab h p=some (.cells (rdL K c s stp sl st ct cl) y)∧OwR h (fun b=>kd b=2) 1 sl (s.slots.map fun n=>[U64 n])∧
  OwR h (fun b=>kd b=3) 4 st Q.reverse∧nN h kd Q s.stack∧OwR h (fun b=>kd b=4) 1 ct (s.counts.reverse.map fun n=>[U64 n])∧OwR h (fun b=>kd b=5) 1 cl (s.calls.reverse.map fun n=>[N64 n])
 kp:kd p=1
 lo: ∀i,i<m→kd i=0
 ml:m≤h.length
 dat:wJ m h K.dv (aI c.data)
 inp:c.data.length≤K.inp∧K.inp≤1000000000000
 byt: ∀b∈c.data,b<256
 len:c.data.length≤1000000
def Nx (n:Nat) (m:Nat) (K:RC) (kd:Nat→Nat) (h:AH) (p:Nat) (c:PC) (s:PR) (h':AH):Prop:=∃kd',RS m K kd' h' p c s∧h.length≤h'.length∧ ∀i,i<n→kd i=0→ab h' i=ab h i∧kd' i=0
section
variable {m:Nat} {K:RC} {kd:Nat→Nat} {h:AH} {p:Nat} {c:PC} {s:PR} {κ:Ka}
theorem cW.frm {v:AV} {cs:List AV} {h':AH} (r:cW h v cs) (hl:v.lt m=true) (f: ∀i,i<m→ab h' i=ab h i):cW h' v cs:=by
 rcases r with r|r|⟨b,o,n,row,y,e,rfl,hb,hc,hd⟩
 ·exact .inl r
 ·exact .inr (.inl r)
 ·rw [uP,decide_eq_true_iff] at hl
  exact .inr (.inr ⟨b,o,n,row,y,e,rfl,by rw [f b hl];exact hb,hc,hd⟩)
def dF (kd:Nat→Nat) (n c:Nat):Nat→Nat:=fun i=>if i<n then kd i else c
theorem cF {n c i:Nat} (h:i<n):dF kd n c i=kd i:=if_pos h
theorem iY {n c i:Nat} (h:n≤i):dF kd n c i=c:=if_neg (by omega)
theorem RS.grow {h':AH} (R:RS m K kd h p c s) (hl:h.length≤h'.length) (f: ∀i,i<h.length→ab h' i=ab h i):RS m K (dF kd h.length 0) h' p c s:=by
 obtain ⟨stp,y,sl,st,ct,cl,Q,hp,o2,o3,ok,o4,o5⟩:=R.ex;have hpl:=aJ hp;have mm: ∀{j:Nat} b,b<h.length→kd b=j→dF kd h.length 0 b=j∧ab h' b=ab h b:=fun b hb e=>⟨by rw [cF hb];exact e,f b hb⟩
 refine ⟨⟨stp,y,sl,st,ct,cl,Q,by rw [f p hpl];exact hp,o2.mono mm,o3.mono mm,ok.mono (fun b hb _ _=>⟨cF hb,f b hb⟩),o4.mono mm,o5.mono mm⟩,by rw [cF hpl];exact R.kp,fun i hi=>?_,Bo R.ml hl,R.dat.frm (fun i hi=>f i (Bm hi R.ml)),R.inp,R.byt,R.len⟩
 rw [cF (Bm hi R.ml)];exact R.lo i hi
theorem RS.upd {s':PR} {stp':Int} {y':Nat} {sl st ct cl:AV} {Q:List (List AV)} (R:RS m K kd h p c s)
 (o2:OwR h (fun b=>kd b=2) 1 sl (s'.slots.map fun n=>[U64 n])) (o3:OwR h (fun b=>kd b=3) 4 st Q.reverse) (ok:nN h kd Q s'.stack) (o4:OwR h (fun b=>kd b=4) 1 ct (s'.counts.reverse.map fun n=>[U64 n])) (o5:OwR h (fun b=>kd b=5) 1 cl (s'.calls.reverse.map fun n=>[N64 n])):
 RS m K kd (h.set p (some (.cells (rdL K c s' stp' sl st ct cl) y'))) p c s':=by
 obtain ⟨_,_,_,_,_,_,_,hp,_⟩:=R.ex;have hpl:=aJ hp;have mm: ∀{j:Nat},j≠1→ ∀b,b<h.length→kd b=j→kd b=j∧ab (h.set p (some (.cells (rdL K c s' stp' sl st ct cl) y'))) b=ab h b:=fun hj b hb e=>⟨e,ae (fun cc=>hj (by rw [←e,←cc];exact R.kp)) _⟩
 refine ⟨⟨stp',y',sl,st,ct,cl,Q,aq hpl _,o2.mono (mm (by decide)),o3.mono (mm (by decide)),ok.mono (fun b hb h1 _=>(mm (j:=kd b) (by omega) b hb rfl)),o4.mono (mm (by decide)),o5.mono (mm (by decide))⟩,R.kp,R.lo,by rw [Bb];exact R.ml,R.dat.frm (fun i hi=>?_),R.inp,R.byt,R.len⟩
 rw [ae];intro cc;have h1:=R.lo i hi;have h2:=R.kp;rw [cc,h1] at h2;cases h2
theorem RS.make {kd':Nat→Nat} {h':AH} {s':PR} {stp':Int} {y':Nat} {sl st ct cl:AV} {Q:List (List AV)} (R:RS m K kd h p c s) (kp:kd' p=1) (lo: ∀i,i<m→kd' i=0∧ab h' i=ab h i) (ml:h.length≤h'.length)
 (hp:ab h' p=some (.cells (rdL K c s' stp' sl st ct cl) y')) (o2:OwR h' (fun b=>kd' b=2) 1 sl (s'.slots.map fun n=>[U64 n])) (o3:OwR h' (fun b=>kd' b=3) 4 st Q.reverse) (ok:nN h' kd' Q s'.stack) (o4:OwR h' (fun b=>kd' b=4) 1 ct (s'.counts.reverse.map fun n=>[U64 n])) (o5:OwR h' (fun b=>kd' b=5) 1 cl (s'.calls.reverse.map fun n=>[N64 n])):
 RS m K kd' h' p c s':=
 ⟨⟨stp',y',sl,st,ct,cl,Q,hp,o2,o3,ok,o4,o5⟩,kp,fun i hi=>(lo i hi).1,Bo R.ml ml,R.dat.frm (fun i hi=>(lo i hi).2),R.inp,R.byt,R.len⟩
theorem RS.iV {i:Nat} (R:RS m K kd h p c s) (hi:kd i=0):p≠i:=fun cc=>by
 have:=R.kp
 rw [cc,hi] at this;cases this
end
end Go.Proofs.YtemmgalfdmnkoaaGreatDoor
