/- Regions that draw their order, where each order does what the text's does: they are gone through as others, with some questions between. -/
import Derived.Test.YteapfopaiocpeaaGreatDoorME
namespace Go.Proofs.YteapfopaiocpeaaGreatDoor
set_option linter.unusedSimpArgs false
set_option linter.unusedVariables false
set_option linter.unnecessarySimpa false
def bg (F:AH→Ka→Option Rs):Prop:=(∀h κ,F h κ=none)∨ ∃v,∀h κ,F h κ=κ v h
def zz (F:AH→Ka→Option Rs):Prop:=∀h,(∀κ,F h κ=none)∨ ∃v,∀κ,F h κ=κ v h
def dK (F:AH→Ka→Option Rs):Prop:=(∀h κ,F h κ=none)∨(∃v,∀h κ,F h κ=κ v h)∨ ∃(g:Nat→AV) (B:Option Blk),∀h κ,F h κ=κ (g (aj h)) (aJ h [B])
theorem bg.read {F:AH→Ka→Option Rs} (p:bg F):zz F:=fun h=>by
 rcases p with p|⟨v,p⟩
 ·exact .inl (p h)
 ·exact .inr ⟨v,p h⟩
section
variable {α:Type} {C:Cx} {run:Run} {σ:List AV} {T:Tms} {x y z:AV} {ds:List (Option Nat)} {h:AH}
theorem P0:bg fun _ _=>none:=.inl fun _ _=>rfl
theorem P1 (v:AV):bg fun h κ=>κ v h:=.inr ⟨v,fun _ _=>rfl⟩
theorem Pb (c:Bool) {F G:AH→Ka→Option Rs} (hF:bg F) (hG:bg G):bg fun h κ=>bq c (F h κ) (G h κ):=by cases c<;>assumption
theorem Po (o:Option α) {F:α→AH→Ka→Option Rs} (H: ∀a,bg (F a)):bg fun h κ=>au o fun a=>F a h κ:=by
 cases o with
 |none=>exact P0
 |some a=>exact H a
theorem mf (x:AV) {F:Nat→Int→AH→Ka→Option Rs} (H: ∀k n,bg (F k n)):bg fun h κ=>cS x fun k n=>F k n h κ:=by cases x<;>first|exact H _ _|exact P0
theorem apB (x:AV) {F:Bool→AH→Ka→Option Rs} (H: ∀b,bg (F b)):bg fun h κ=>mR x fun b=>F b h κ:=by cases x<;>first|exact H _|exact P0
theorem abG (x:AV) {F:List Nat→AH→Ka→Option Rs} (H: ∀b,bg (F b)):bg fun h κ=>gO x fun b=>F b h κ:=by cases x<;>first|exact H _|exact P0
theorem PPtr (x:AV) {F:Nat→Nat→AH→Ka→Option Rs} {G:List AV→Nat→AH→Ka→Option Rs} (H: ∀b o,bg (F b o)) (H': ∀b o,bg (G b o)):bg fun h κ=>lW x (fun b o=>F b o h κ) (fun c o=>G c o h κ):=by
 cases x<;>first|exact H _ _|exact H' _ _|exact P0
theorem PAgg (x:AV) {F:List AV→AH→Ka→Option Rs} (H: ∀b,bg (F b)):bg fun h κ=>sC x fun b=>F b h κ:=by cases x<;>first|exact H _|exact P0
theorem PTup (x:AV) {F:List AV→AH→Ka→Option Rs} (H: ∀b,bg (F b)):bg fun h κ=>adD x fun b=>F b h κ:=by cases x<;>first|exact H _|exact P0
theorem arl (x:AV) {A:AH→Ka→Option Rs} {F:Nat→Nat→Nat→Nat→Nat→Bool→AH→Ka→Option Rs} {G:List AV→Nat→AH→Ka→Option Rs} (HA:bg A) (H: ∀b o l c z e,bg (F b o l c z e)) (H': ∀b o,bg (G b o)):
 bg fun h κ=>lR x (A h κ) (fun b o l c z e=>F b o l c z e h κ) (fun c o=>G c o h κ):=by
 cases x<;>first|exact H _ _ _ _ _ _|exact H' _ _|exact HA|exact P0
theorem arZ (x:AV) {A:AH→Ka→Option Rs} (HA:bg A):bg fun h κ=>acD x (A h κ):=by cases x<;>first|exact HA|exact P0
theorem PV (v:Option AV):bg fun h κ=>qE κ h v:=Po v fun v=>P1 v
theorem aqL (i:Int) {F:Nat→AH→Ka→Option Rs} (H: ∀b,bg (F b)):bg fun h κ=>vL i fun b=>F b h κ:=by cases i<;>first|exact H _|exact P0
theorem alx (i:Int) (n:Nat) {F:Nat→AH→Ka→Option Rs} (H: ∀b,bg (F b)):bg fun h κ=>inB i n fun b=>F b h κ:=aqL i fun m=>Pb _ (H m) P0
theorem ars (len cap:Nat) (lo hi mx:Option AV) {F:Nat→Nat→Nat→AH→Ka→Option Rs} (H: ∀l u m,bg (F l u m)):bg fun h κ=>mO len cap lo hi mx fun l u m=>F l u m h κ:=
 Po _ fun l=>Po _ fun u=>Po _ fun m=>Pb _ (H l u m) P0
theorem aeU (n:Nat):bg fun h κ=>ao n x h κ:=PPtr x (fun _ _=>P1 _) fun _ _=>P1 _
theorem akJ (o:Nat):bg fun h κ=>vu o x h κ:=PAgg x fun cs=>PV _
theorem ah5 (o n:Nat):bg fun h κ=>uW o n x h κ:=PAgg x fun cs=>Pb _ (P1 _) P0
theorem iL:bg (no.f C run σ T):=P0
theorem vO (t:Nat) {f:TI→OK} (H: ∀ti,bg ((f ti).f C run σ T)):bg ((tyK C t f).f C run σ T):=by
 unfold tyK
 split
 ·exact H _
 ·exact iL
theorem aoM (c:Bool) {k l:OK} (hk:bg (k.f C run σ T)) (hl:bg (l.f C run σ T)):bg ((bq c k l).f C run σ T):=by cases c<;>assumption
theorem P_nz (n:Nat) {k:OK} (hk:bg (k.f C run σ T)):bg ((nz n k).f C run σ T):=aoM _ iL hk
theorem arT (op:BinOp) (k:IntKind) (a b:Od):bg ((wL op k a b).f C run σ T):=by
 cases op<;>first
  |exact mf _ fun k a=>mf _ fun k' b=>Pb _ (P1 _) P0
  |exact mf _ fun k a=>Pb _ (mf _ fun k' b=>Pb _ (P1 _) P0) P0
  |exact mf _ fun k a=>mf _ fun k' b=>aqL b fun s=>Pb _ (P1 _) P0
theorem asQ (op:BinOp) (a b:Od):bg ((vU op a b).f C run σ T):=by
 cases op<;>first|exact abG _ fun _=>abG _ fun _=>P1 _|exact abG _ fun _=>abG _ fun _=>Pb _ (P1 _) P0|exact iL
theorem asq (op:BinOp) (ti:TI) (a b:Od):bg ((acm op ti a b).f C run σ T):=by
 unfold acm
 split
 ·exact arT _ _ _ _
 ·exact asQ _ _ _
 ·split
  ·exact Po _ fun _=>P1 _
  ·exact Po _ fun _=>P1 _
  ·exact iL
theorem P_un (op:UnOp) (ti:TI) (a:Od):bg ((unK op ti a).f C run σ T):=by
 unfold unK
 split
 ·exact mf _ fun _ n=>P1 _
 ·exact apB _ fun _=>P1 _
 ·exact mf _ fun _ n=>Pb _ (P1 _) P0
 ·exact iL
theorem apd (x:Od) (w:Bool) {k:OK} (hk:bg (k.f C run σ T)):bg ((OK.mk (ya x w k.f)).f C run σ T):=Po _ fun b=>Pb b hk (P1 _)
theorem P_gd (ops:List Oper) (g:Option (Nat×Bool)) {k:OK} (hk:bg (k.f C run σ T)):bg ((gdK ops ds g k).f C run σ T):=by
 unfold gdK
 split
 ·exact hk
 ·split
  ·split
   ·exact apd _ _ hk
   ·exact iL
  ·exact iL
end
noncomputable section
def gI (C:Cx) (t:Nat) (p:TK→Bool):Bool:=
 match C.ty t with
 |some ti=>p ti.kind
 |none=>true
def ae1 (C:Cx):Op→Bool
 | .move _| .assign _| .pick .. | .nilCheck _| .unOp .. | .extract .. | .fieldAddr .. | .field .. | .build .. | .binOp .. | .indexAddr .. | .index .. =>true
 | .convert s d _=>gI C s fun k=>match k with
   | .int _=>true
   |_=>false
 | .slice ty .. =>gI C ty fun k=>match k with
   | .array _ _=>false
   |_=>true
 | .call c=>match c.callee with
   | .builtin .len=>match c.argTypes.toList with
     |t::_=>gI C t fun k=>match k with
      | .map _ _=>false
      |_=>true
     |[]=>true
   | .builtin .min| .builtin .max=>true
   |_=>false
 |_=>false
def akz (C:Cx):Op→Bool
 | .load .. | .lookup .. =>true
 | .convert _ d _=>gI C d fun k=>match k with
   | .string=>true
   |_=>false
 |_=>false
end
section
variable {C:Cx} {run:Run} {σ:List AV} {T:Tms} {ds:List (Option Nat)}
theorem P_op {o:Op} (hp:ae1 C o=true):bg ((opK C ds o).f C run σ T):=by
 cases o<;>try (cases hp;done)
 case move x=>exact P1 _
 case assign x=>exact P1 _
 case pick c x y=>exact apB _ fun _=>P1 _
 case build t ps=>
  refine vO _ fun ti=>?_
  split
  ·exact aoM _ (Po _ fun _=>P1 _) iL
  ·exact vO _ fun ei=>Po _ fun _=>P1 _
  ·exact iL
 case nilCheck x=>exact arZ _ (P1 _)
 case binOp op t x y ty=>exact vO _ fun ti=>asq _ _ _ _
 case unOp op t x=>exact vO _ fun ti=>P_un _ _ _
 case convert s d x=>
  replace hp:gI C s (fun k=>match k with| .int _=>true|_=>false)=true:=hp
  unfold gI at hp
  show bg ((tyK C s fun si=>tyK C d fun di=>iH C (Nat.beq s d) si di (od ds x)).f C run σ T)
  unfold tyK
  split
  ·rename_i si hs
   rw [hs] at hp
   split
   ·rename_i di hd
    show bg ((iH C (Nat.beq s d) si di (od ds x)).f C run σ T)
    unfold iH
    split
    ·exact mf _ fun _ n=>P1 _
    all_goals (rename_i k1 _;try rename_i k2;simp_all)
    all_goals exact iL
   ·exact iL
  ·exact iL
 case slice t x lo hi mx=>
  replace hp:gI C t (fun k=>match k with| .array _ _=>false|_=>true)=true:=hp
  unfold gI at hp
  show bg ((tyK C t fun ti=>match ti.kind with
  | .string=>match mx with
    |none=>.mk (oSlT (od ds x) (lo.map (od ds)) (hi.map (od ds)))
    |some _=>no
  | .slice e=>tyK C e fun ei=>.mk (oSlS ei.size (od ds x) (lo.map (od ds)) (hi.map (od ds)) (mx.map (od ds)))
  | .array n e=>match mx with
    |none=>tyK C e fun ei=>nz ei.size (.mk (oSlA n ei.size (od ds x) (lo.map (od ds)) (hi.map (od ds))))
    |some _=>no
  |_=>no).f C run σ T)
  unfold tyK
  split
  ·rename_i ti ht
   rw [ht] at hp
   dsimp only at hp ⊢
   split
   ·split
    ·exact abG _ fun s=>Po _ fun l=>Po _ fun u=>Pb _ (P1 _) P0
    ·exact iL
   ·exact vO _ fun ei=>arl _ (ars _ _ _ _ _ fun _ _ _=>P1 _) (fun b o l c z e=>ars _ _ _ _ _ fun _ _ _=>Pb _ (Pb _ (P1 _) (P1 _)) P0) fun cs l=>ars _ _ _ _ _ fun _ _ _=>Pb _ (Pb _ (P1 _) (P1 _)) P0
   ·rename_i hk
    rw [hk] at hp;cases hp
   ·exact iL
  ·exact iL
 case fieldAddr t x f=>
  show bg ((match eD C t f with|some (off,ui)=>nz ui.size (OK.mk (o1 (ao off) (od ds x)))|none=>no).f C run σ T)
  split
  ·exact P_nz _ (aeU _)
  ·exact iL
 case field t x f=>
  show bg ((match eD C t f with|some (off,ui)=>bq ui.agg (OK.mk (o1 (uW off ui.size) (od ds x))) (OK.mk (o1 (vu off) (od ds x)))|none=>no).f C run σ T)
  split
  ·exact aoM _ (ah5 _ _) (akJ _)
  ·exact iL
 case indexAddr t x i=>
  refine vO _ fun ti=>?_
  split
  ·exact vO _ fun ei=>mf _ fun _ i=>alx i _ fun m=>aeU _
  ·exact vO _ fun ei=>mf _ fun _ i=>arl _ P0 (fun b o l c z e=>alx i l fun m=>Pb _ (P1 _) P0) fun cs l=>alx i l fun m=>P1 _
  ·exact iL
 case index t x i=>
  refine vO _ fun ti=>?_
  split
  ·exact vO _ fun ei=>aoM _ (mf _ fun _ i=>alx i _ fun m=>ah5 _ _) (mf _ fun _ i=>alx i _ fun m=>akJ _)
  ·exact abG _ fun l=>mf _ fun _ i=>aqL i fun m=>Po _ fun _=>P1 _
  ·exact iL
 case extract x i=>exact PTup _ fun cs=>PV _
 case call c=>
  replace hp:(match c.callee with
  | .builtin .len=>match c.argTypes.toList with
    |t::_=>gI C t fun k=>match k with
     | .map _ _=>false
     |_=>true
    |[]=>true
  | .builtin .min| .builtin .max=>true
  |_=>false)=true:=hp
  show bg ((qI C c ds).f C run σ T)
  unfold qI
  split at hp
  ·rename_i hc
   rw [hc]
   show bg ((match c.args.toList,c.argTypes.toList with
    |[x],t::_=>tyK C t fun ti=>match ti.kind with
     | .string=>.mk (o1 ail (od ds x))
     | .slice _=>.mk (o1 bH (od ds x))
     | .map _ _=>.mk (o1 aoI (od ds x))
     | .array n _=>.mk (ajt (.int 9223372036854775807 (.ofNat n)))
     |_=>no
    |_,_=>no).f C run σ T)
   split
   ·rename_i x t r h1 h2
    rw [h2] at hp
    have hp:gI C t (fun k=>match k with| .map _ _=>false|_=>true)=true:=hp
    unfold gI at hp
    unfold tyK
    split
    ·rename_i ti ht
     rw [ht] at hp
     dsimp only at hp ⊢
     split
     ·exact abG _ fun _=>P1 _
     ·exact arl _ (P1 _) (fun _ _ _ _ _ _=>P1 _) fun _ _=>P1 _
     ·rename_i hk
      rw [hk] at hp;cases hp
     ·exact P1 _
     ·exact iL
    ·exact iL
   ·exact iL
  ·rename_i hc
   rw [hc]
   show bg ((match c.args.toList with|[x,y]=>OK.mk (o2 (jk false) (od ds x) (od ds y))|_=>no).f C run σ T)
   split
   ·exact mf _ fun k a=>mf _ fun k' b=>Pb _ (P1 _) P0
   ·exact iL
  ·rename_i hc
   rw [hc]
   show bg ((match c.args.toList with|[x,y]=>OK.mk (o2 (jk true) (od ds x) (od ds y))|_=>no).f C run σ T)
   split
   ·exact mf _ fun k a=>mf _ fun k' b=>Pb _ (P1 _) P0
   ·exact iL
  ·cases hp
end
section
variable {α:Type} {C:Cx} {run:Run} {σ:List AV} {T:Tms} {ds:List (Option Nat)} {x y:AV}
theorem M0:dK fun _ _=>none:=.inl fun _ _=>rfl
theorem M1 (g:Nat→AV) (B:Option Blk):dK fun h κ=>κ (g (aj h)) (aJ h [B]):=.inr (.inr ⟨g,B,fun _ _=>rfl⟩)
theorem Mb (c:Bool) {F G:AH→Ka→Option Rs} (hF:dK F) (hG:dK G):dK fun h κ=>bq c (F h κ) (G h κ):=by cases c<;>assumption
theorem Mo (o:Option α) {F:α→AH→Ka→Option Rs} (H: ∀a,dK (F a)):dK fun h κ=>au o fun a=>F a h κ:=by
 cases o with
 |none=>exact M0
 |some a=>exact H a
theorem MInt (x:AV) {F:Nat→Int→AH→Ka→Option Rs} (H: ∀k n,dK (F k n)):dK fun h κ=>cS x fun k n=>F k n h κ:=by cases x<;>first|exact H _ _|exact M0
theorem MStr (x:AV) {F:List Nat→AH→Ka→Option Rs} (H: ∀b,dK (F b)):dK fun h κ=>gO x fun b=>F b h κ:=by cases x<;>first|exact H _|exact M0
theorem MPos (i:Int) {F:Nat→AH→Ka→Option Rs} (H: ∀b,dK (F b)):dK fun h κ=>vL i fun b=>F b h κ:=by cases i<;>first|exact H _|exact M0
theorem sV:dK (no.f C run σ T):=M0
theorem ams (t:Nat) {f:TI→OK} (H: ∀ti,dK ((f ti).f C run σ T)):dK ((tyK C t f).f C run σ T):=by
 unfold tyK
 split
 ·exact H _
 ·exact sV
theorem arB (c:Bool) {k l:OK} (hk:dK (k.f C run σ T)) (hl:dK (l.f C run σ T)):dK ((bq c k l).f C run σ T):=by cases c<;>assumption
theorem aoT (x:Od) (w:Bool) {k:OK} (hk:dK (k.f C run σ T)):dK ((OK.mk (ya x w k.f)).f C run σ T):=Mo _ fun b=>Mb b hk (.inr (.inl ⟨_,fun _ _=>rfl⟩))
theorem M_gd (ops:List Oper) (g:Option (Nat×Bool)) {k:OK} (hk:dK (k.f C run σ T)):dK ((gdK ops ds g k).f C run σ T):=by
 unfold gdK
 split
 ·exact hk
 ·split
  ·split
   ·exact aoT _ _ hk
   ·exact sV
  ·exact sV
theorem alW (B:Blk):dK fun h κ=>dY h B κ:=M1 (fun n=>.pto n 0) (some B)
theorem M_op {o:Op} (hm:mkB C o=true):dK ((opK C ds o).f C run σ T):=by
 cases o<;>try (cases hm;done)
 case alloc el=>exact ams _ fun ti=>alW _
 case box el x=>exact Mb _ (alW _) M0
 case buildSlice t n ps=>
  refine ams _ fun ti=>?_
  split
  ·exact ams _ fun ei=>arB _ sV (Mb _ (Mo _ fun cs=>M1 (fun k=>.slo k 0 n n ei.size true) (some (sK ei.size n cs 0))) M0)
  ·exact sV
 case convert s d x=>
  replace hm:qJ C s d=true:=hm
  unfold qJ sliceTo at hm
  show dK ((tyK C s fun si=>tyK C d fun di=>iH C (Nat.beq s d) si di (od ds x)).f C run σ T)
  unfold tyK
  split
  ·rename_i si hs
   rw [hs] at hm
   dsimp only at hm ⊢
   split
   ·rename_i di hd
    rw [hd] at hm
    dsimp only at hm ⊢
    unfold iH
    split
    ·rename_i k1 k2;rw [k1] at hm;cases hm
    ·rename_i k1 k2;rw [k1,k2] at hm;cases hm
    ·exact arB _ (MStr _ fun l=>M1 (fun n=>.slo n 0 (aj l) (aj l) 1 false) (some (.cells (lN l) 0))) sV
    ·rename_i k1 k2;rw [k1] at hm;cases hm
    ·rename_i k1 k2;rw [k1] at hm;cases hm
    ·exact sV
   ·exact sV
  ·exact sV
 case makeMap t r=>cases r<;>first|exact M1 (fun n=>.mpo n) (some (.map [] []))|exact sV
 case makeSlice t l c=>
  refine ams _ fun ti=>?_
  split
  ·refine ams _ fun ei=>arB _ sV (MInt _ fun k l=>MInt _ fun k' c=>MPos l fun l=>MPos c fun c=>Mb _ (M1 (fun n=>.slo n 0 l c ei.size true) (some (bq (Nat.blt 64 ei.size) (.rows ei.size (cr c ei.zero) 0) (.cells (nj ei.zero c) 0)))) M0)
  ·exact sV
theorem R_op {o:Op} (hr:akz C o=true):zz ((opK C ds o).f C run σ T):=by
 intro h
 have fin: ∀F:Ka→Option Rs,((∀κ,F κ=none)∨ ∃v,∀κ,F κ=κ v h)→((∀κ,F κ=none)∨ ∃v,∀κ,F κ=κ v h):=fun _ x=>x
 have rv: ∀x:Option AV,(∀κ:Ka,qE κ h x=none)∨ ∃v,∀κ:Ka,qE κ h x=κ v h:=by
  intro x
  cases x with
  |none=>exact .inl fun _=>rfl
  |some v=>exact .inr ⟨v,fun _=>rfl⟩
 have rc: ∀(c:Bool) (v:AV),(∀κ:Ka,bq c (κ v h) none=none)∨ ∃v',∀κ:Ka,bq c (κ v h) none=κ v' h:=by
  intro c v
  cases c with
  |false=>exact .inl fun _=>rfl
  |true=>exact .inr ⟨v,fun _=>rfl⟩
 have n0:(∀κ:Ka,(no.f C run σ T h) κ=none)∨ ∃v,∀κ:Ka,(no.f C run σ T h) κ=κ v h:=.inl fun _=>rfl
 cases o<;>try (cases hr;done)
 case load t p=>
  show (∀κ,(tyK C t fun ti=>bq ti.agg (.mk (o1 (aQ ti.size) (od ds p))) (.mk (o1 ar (od ds p)))).f C run σ T h κ=none)∨ ∃v,∀κ,(tyK C t fun ti=>bq ti.agg (.mk (o1 (aQ ti.size) (od ds p))) (.mk (o1 ar (od ds p)))).f C run σ T h κ=κ v h
  unfold tyK
  split
  ·rename_i ti _
   dsimp only
   generalize hx:ev C σ T (od ds p)=x
   have hg: ∀n,(∀κ:Ka,aQ n x h κ=none)∨ ∃v,∀κ:Ka,aQ n x h κ=κ v h:=by
    intro n
    cases x<;>try exact .inl fun _=>rfl
    ·rename_i b o
     show (∀κ:Ka,au (ae h b) (fun B=>vJ B (fun cs _=>oo n κ h o cs) fun z ll _=>afR n κ h o z ll)=none)∨ ∃v,∀κ:Ka,au (ae h b) (fun B=>vJ B (fun cs _=>oo n κ h o cs) fun z ll _=>afR n κ h o z ll)=κ v h
     cases ae h b with
     |none=>exact .inl fun _=>rfl
     |some B=>cases B with
      |cells cs y=>exact rc (Nat.ble (Nat.add o n) (aj cs)) (iG cs o n)
      |map _ _=>exact .inl fun _=>rfl
      |rows z ll y=>
       show (∀κ:Ka,au (dL ll (Nat.div o z)) _=none)∨ ∃v,∀κ:Ka,au (dL ll (Nat.div o z)) _=κ v h
       cases dL ll (Nat.div o z) with
       |none=>exact .inl fun _=>rfl
       |some l=>
        show (∀κ:Ka,bq (and (Nat.beq (Nat.mod o z) 0) (Nat.beq n z)) _ _=none)∨ ∃v,∀κ:Ka,bq (and (Nat.beq (Nat.mod o z) 0) (Nat.beq n z)) _ _=κ v h
        cases and (Nat.beq (Nat.mod o z) 0) (Nat.beq n z) with
        |true=>exact .inr ⟨_,fun _=>rfl⟩
        |false=>exact rc (Nat.ble (Nat.add (Nat.mod o z) n) z) (iG l (Nat.mod o z) n)
    ·rename_i cs o
     exact rc (Nat.ble (Nat.add o n) (aj cs)) (iG cs o n)
   have h1:(∀κ:Ka,ar x h κ=none)∨ ∃v,∀κ:Ka,ar x h κ=κ v h:=by
    cases x<;>try exact .inl fun _=>rfl
    ·rename_i b o
     show (∀κ:Ka,au (ae h b) (fun B=>vJ B (fun cs _=>sR κ h o cs) fun z ll _=>ahk κ h o z ll)=none)∨ ∃v,∀κ:Ka,au (ae h b) (fun B=>vJ B (fun cs _=>sR κ h o cs) fun z ll _=>ahk κ h o z ll)=κ v h
     cases ae h b with
     |none=>exact .inl fun _=>rfl
     |some B=>cases B with
      |cells cs y=>exact rv _
      |map _ _=>exact .inl fun _=>rfl
      |rows z ll y=>
       show (∀κ:Ka,au (dL ll (Nat.div o z)) _=none)∨ ∃v,∀κ:Ka,au (dL ll (Nat.div o z)) _=κ v h
       cases dL ll (Nat.div o z) with
       |none=>exact .inl fun _=>rfl
       |some l=>exact rv _
    ·exact rv _
   cases ti.agg with
   |true=>
    show (∀κ:Ka,aQ ti.size (ev C σ T (od ds p)) h κ=none)∨ ∃v,∀κ:Ka,aQ ti.size (ev C σ T (od ds p)) h κ=κ v h
    rw [hx];exact hg _
   |false=>
    show (∀κ:Ka,ar (ev C σ T (od ds p)) h κ=none)∨ ∃v,∀κ:Ka,ar (ev C σ T (od ds p)) h κ=κ v h
    rw [hx];exact h1
  ·exact n0
 case convert s d x=>
  replace hr:gI C d (fun k=>match k with| .string=>true|_=>false)=true:=hr
  unfold gI at hr
  show (∀κ,(tyK C s fun si=>tyK C d fun di=>iH C (Nat.beq s d) si di (od ds x)).f C run σ T h κ=none)∨ ∃v,∀κ,(tyK C s fun si=>tyK C d fun di=>iH C (Nat.beq s d) si di (od ds x)).f C run σ T h κ=κ v h
  have fb: ∀x:AV,(∀κ:Ka,fj x h κ=none)∨ ∃v,∀κ:Ka,fj x h κ=κ v h:=by
   intro x
   unfold fj
   cases lO x with
   |none=>exact .inl fun _=>rfl
   |some n=>
    show (∀κ:Ka,au (cQ h 1 n x) _=none)∨ ∃v,∀κ:Ka,au (cQ h 1 n x) _=κ v h
    cases cQ h 1 n x with
    |none=>exact .inl fun _=>rfl
    |some l=>
     show (∀κ:Ka,au (bytesOf l) _=none)∨ ∃v,∀κ:Ka,au (bytesOf l) _=κ v h
     cases bytesOf l with
     |none=>exact .inl fun _=>rfl
     |some b=>cases x<;>first|exact .inl fun _=>rfl|exact .inr ⟨.str b,fun _=>rfl⟩
  have fs: ∀x:AV,(∀κ:Ka,adK x h κ=none)∨ ∃v,∀κ:Ka,adK x h κ=κ v h:=by
   intro x
   cases x<;>first|exact .inl fun _=>rfl|exact .inr ⟨_,fun _=>rfl⟩
  unfold tyK
  split
  ·rename_i si hs
   dsimp only
   split
   ·rename_i di hd
    rw [hd] at hr
    dsimp only at hr
    show (∀κ,(iH C (Nat.beq s d) si di (od ds x)).f C run σ T h κ=none)∨ ∃v,∀κ,(iH C (Nat.beq s d) si di (od ds x)).f C run σ T h κ=κ v h
    unfold iH
    split
    ·rename_i k1 k2;rw [k2] at hr;cases hr
    ·exact fs _
    ·rename_i k1 k2;rw [k2] at hr;cases hr
    ·cases af7 C _ with
     |true=>exact fb _
     |false=>exact n0
    ·rename_i k1 k2;rw [k2] at hr;cases hr
    ·exact n0
   ·exact n0
  ·exact n0
 case lookup t x i cok=>
  show (∀κ,(tyK C t fun ti=>match ti.kind with| .map kt et=>tyK C kt fun ki=>tyK C et fun ei=>.mk (o2 (ni ki ei cok) (od ds x) (od ds i))|_=>no).f C run σ T h κ=none)∨ ∃v,∀κ,(tyK C t fun ti=>match ti.kind with| .map kt et=>tyK C kt fun ki=>tyK C et fun ei=>.mk (o2 (ni ki ei cok) (od ds x) (od ds i))|_=>no).f C run σ T h κ=κ v h
  have lk: ∀(ki ei:TI) (x y:AV),(∀κ:Ka,ni ki ei cok x y h κ=none)∨ ∃v,∀κ:Ka,ni ki ei cok x y h κ=κ v h:=by
   intro ki ei x y
   unfold ni
   cases mapOf h x with
   |none=>exact .inl fun _=>rfl
   |some p=>
    show (∀κ:Ka,bq (iW ki y) (au (jG y p.1) fun i=>qE κ h (al8 ei p.2 cok i)) none=none)∨ ∃v,∀κ:Ka,bq (iW ki y) (au (jG y p.1) fun i=>qE κ h (al8 ei p.2 cok i)) none=κ v h
    cases iW ki y with
    |false=>exact .inl fun _=>rfl
    |true=>
     cases jG y p.1 with
     |none=>exact .inl fun _=>rfl
     |some i=>exact rv _
  unfold tyK
  split
  ·dsimp only
   split
   ·split
    ·split
     ·exact lk _ _ _ _
     ·exact n0
    ·exact n0
   ·exact n0
  ·exact n0
theorem R_gd (ops:List Oper) (g:Option (Nat×Bool)) {k:OK} (hk:zz (k.f C run σ T)):zz ((gdK ops ds g k).f C run σ T):=by
 intro h
 unfold gdK
 split
 ·exact hk h
 ·split
  ·split
   ·rename_i d _
    show (∀κ,au (wu (ev C σ T (od ds (.tmp d))) _) (aic k.f C run σ T h κ)=none)∨ ∃v,∀κ,au (wu (ev C σ T (od ds (.tmp d))) _) (aic k.f C run σ T h κ)=κ v h
    cases wu (ev C σ T (od ds (.tmp d))) _ with
    |none=>exact .inl fun _=>rfl
    |some b=>cases b with
     |true=>exact hk h
     |false=>exact .inr ⟨_,fun _=>rfl⟩
   ·exact .inl fun _=>rfl
  ·exact .inl fun _=>rfl
end
noncomputable section
def ltK (o:OK):OK:=.mk fun C run σ t h κ=>o.f C run σ t h fun v h'=>bq (AV.lt (aj h) v) (κ v h') none
def leK (o:OK):OK:=.mk fun C run σ t h κ=>o.f C run σ t h fun v h'=>bq (Nat.ble (aj h) (aj h')) (κ v h') none
def gq (ks:List Nat) (j:Nat) (d:DOp):OK:=bq d.ef (leK d.op) (bq (rH j ks) (ltK d.op) d.op)
def gN (ks:List Nat) (D:List DOp):Nat→List OK:=List.rec (motive:=fun _=>Nat→List OK) (fun _=>[]) (fun d _ ih j=>gq ks j d::ih (Nat.succ j)) D
def isE (l:List Nat):Bool:=List.rec (motive:=fun _=>Bool) true (fun _ _ _=>false) l
def uC (C:Cx) (ops:Array Oper):Bool:=
 let l:=ops.toList
 let b:=bM l
 ((List.range l.length).all fun j=>mkB C (l.getD j default).op||(dW C (l.getD j default).op&&isE (gJ C l b j))||(!dW C (l.getD j default).op&&(ae1 C (l.getD j default).op||(akz C (l.getD j default).op&&isE (gJ C l b j)))))&&
 (bo C ops).all fun p=>Nat.blt p.1 l.length&&Nat.blt p.2 l.length&&(ae1 C (l.getD p.1 default).op&& !mkB C (l.getD p.1 default).op&& !dW C (l.getD p.1 default).op)
end
structure akd (C:Cx) (run:Run) (T:Tms) (D:List DOp) (pl:List (Nat×Nat)):Prop where
 nat: ∀d∈D,∀σ h,aU (d.op.f C run σ T h)
 mkr: ∀d∈D,d.nw=true→d.ef=false∧ ∀σ,dK (d.op.f C run σ T)
 ef: ∀d∈D,d.nw=false→d.ef=true→d.hide=[]
 rd: ∀d∈D,d.nw=false→d.ef=false→(∀σ,bg (d.op.f C run σ T))∨(d.hide=[]∧ ∀σ,zz (d.op.f C run σ T))
 pl: ∀p∈pl,∃d,D[p.1]? =some d∧p.2<D.length∧d.nw=false∧d.ef=false∧ ∀σ,bg (d.op.f C run σ T)
theorem mM {b:Nat}: ∀{ks:List Nat},rH b ks=true↔b∈ks
 |[]=>by constructor<;>intro h<;>cases h
 |a::r=>by
  have ih:=@mM b r
  show bq (Nat.beq a b) true (rH b r)=true↔_
  rw [jr]
  by_cases e:a=b
  ·rw [decide_eq_true e];simp [e,aw]
  ·rw [decide_eq_false e,ay,ih];simp [Ne.symm e]
theorem aeV {l:List Nat} (h:isE l=true):l=[]:=by
 cases l with
 |nil=>rfl
 |cons a r=>cases h
theorem wi {C:Cx} {run:Run} {T:Tms}: ∀(l:List DOp) {tr tr':List Tr} {σ σ':List AV} {h h':AH},eJ C run T l tr σ h=some (tr',σ',h')→ ∃m,tr'=tr++m∧m.length=l.length
 |[],tr,tr',σ,σ',h,h',e=>by cases e;exact ⟨[],by simp,rfl⟩
 |d::l,tr,tr',σ,σ',h,h',e=>by
  obtain ⟨r,e1,e2⟩:=ag (show au (dN C run T d tr σ h) (fun r=>eJ C run T l (aJ tr [r]) (r.v::σ) r.h')=some (tr',σ',h') from e)
  obtain ⟨m,rfl,hm⟩:=wi l e2
  exact ⟨r::m,by rw [aP];simp,by simp [hm]⟩
section
variable {C:Cx} {run:Run} {T:Tms}
noncomputable def sf (C:Cx) (run:Run) (fl:List (Nat×Nat)) (T:Tms) (D:List DOp) (pl:List (Nat×Nat)) (x:List Tr×List AV×AH):Option Rs:=bq (fY (mS C run T D x.1) pl) (some (.st (bZ x.2.1 T fl) x.2.2)) none
theorem uM {fl pl:List (Nat×Nat)} {D:List DOp} (H:akd C run T D pl): ∀(l done:List DOp) (tr:List Tr) (σ:List AV) (h:AH),D=done++l→tr.length=done.length→
 (∀(i:Nat) (d:DOp) (r:Tr),D[i]? =some d→tr[i]? =some r→i∈pl.map (·.1)→AV.lt (aj r.h) r.v=true∧ ∀h2,vhO (d.op.f C run r.σ T h2 kVH)=some (r.v,h2))→
 au (eJ C run T l tr σ h) (sf C run fl T D pl)=gR C run fl T (gN (pl.map (·.1)) l tr.length) σ h:=by
 intro l
 induction l with
 |nil=>
  intro done tr σ h hD hl hi
  show sf C run fl T D pl (tr,σ,h)=some (.st (bZ σ T fl) h)
  unfold sf
  have:fY (mS C run T D tr) pl=true:=ue.2 fun p hp=>by
   obtain ⟨d,h1,h2,_,_,_⟩:=H.pl p hp
   have hDl:D.length=tr.length:=by rw [hD,hl];simp
   have l1:p.1<tr.length:=by rw [←hDl];exact (List.getElem?_eq_some_iff.1 h1).1
   have a2:tr[p.1]? =some tr[p.1]:=List.getElem?_eq_getElem l1
   have a3:tr[p.2]? =some (tr[p.2]'(by omega)):=List.getElem?_eq_getElem (by omega)
   obtain ⟨c1,c2⟩:=hi _ _ _ h1 a2 (List.mem_map.2 ⟨p,hp,rfl⟩)
   unfold mS
   rw [bt,bt,bt,h1,a2,a3]
   show and (AV.lt (aj (tr[p.1]).h) (tr[p.1]).v) (isV (tr[p.1]).v (vhO (d.op.f C run (tr[p.1]).σ T _ kVH)))=true
   rw [c1,c2]
   show AV.same _ _=true
   exact gA _
  rw [this];rfl
 |cons d l ih=>
  intro done tr σ h hD hl hi
  have hd:d∈D:=by rw [hD];simp
  have hDj:D[tr.length]? =some d:=by rw [hD,hl];simp
  have hnj: ∀p∈pl,p.1=tr.length→d.nw=false∧d.ef=false∧ ∀σ,bg (d.op.f C run σ T):=fun p hp e=>by
   obtain ⟨d',h1,_,h3⟩:=H.pl p hp
   rw [e,hDj] at h1
   cases h1
   exact h3
  have go: ∀(v:AV) (h':AH),dN C run T d tr σ h=some ⟨σ,h,v,h'⟩→(tr.length∈pl.map (·.1)→AV.lt (aj h) v=true∧ ∀h2,vhO (d.op.f C run σ T h2 kVH)=some (v,h2))→
   au (eJ C run T (d::l) tr σ h) (sf C run fl T D pl)=gR C run fl T (gN (pl.map (·.1)) l (tr.length+1)) (v::σ) h':=fun v h' e hv=>by
   show au (au (dN C run T d tr σ h) fun r=>eJ C run T l (aJ tr [r]) (r.v::σ) r.h') _=_
   rw [e,aT,aP]
   have:=ih (done++[d]) (tr++[⟨σ,h,v,h'⟩]) (v::σ) h' (by rw [hD];simp) (by simp [hl]) (fun i q r h1 h2 h3=>by
    rcases Nat.lt_trichotomy i tr.length with hlt|rfl|hgt
    ·rw [List.getElem?_append_left hlt] at h2
     exact hi i q r h1 h2 h3
    ·rw [hDj] at h1
     rw [List.getElem?_append_right (Nat.le_refl _),Nat.sub_self] at h2
     cases h1;cases h2
     exact hv h3
    ·rw [List.getElem?_eq_none (by simp;omega)] at h2;cases h2)
   rw [List.length_append] at this
   exact this
  have gn:dN C run T d tr σ h=none→au (eJ C run T (d::l) tr σ h) (sf C run fl T D pl)=none:=fun e=>by
   show au (au (dN C run T d tr σ h) fun r=>eJ C run T l (aJ tr [r]) (r.v::σ) r.h') _=_
   rw [e];rfl
  have rhs:gR C run fl T (gN (pl.map (·.1)) (d::l) tr.length) σ h=(gq (pl.map (·.1)) tr.length d).f C run σ T h fun v=>gR C run fl T (gN (pl.map (·.1)) l (tr.length+1)) (v::σ):=by
   show gR C run fl T (gq (pl.map (·.1)) tr.length d::gN (pl.map (·.1)) l (tr.length+1)) σ h=_
   generalize gq (pl.map (·.1)) tr.length d=w
   cases w
   rfl
  rw [rhs]
  have hidE:dJ tr []=[]:=rfl
  cases hw:d.nw with
  |true=>
   obtain ⟨he,hm⟩:=H.mkr d hd hw
   have hin:rH tr.length (pl.map (·.1))=false:=by
    rw [Bool.eq_false_iff]
    intro c
    obtain ⟨p,hp,e⟩:=List.mem_map.1 (mM.1 c)
    have:=(hnj p hp e).1
    rw [hw] at this;cases this
   have hni:tr.length∈pl.map (·.1)→False:=fun c=>by rw [mM.2 c] at hin;cases hin
   have hwr:gq (pl.map (·.1)) tr.length d=d.op:=by unfold gq;rw [he,hin];rfl
   rw [hwr]
   have hsd:dN C run T d tr σ h=au (vhO (d.op.f C run σ T (cr (aj h) none) kVH)) fun x=>bq (and (Nat.ble (aj h) (aj x.2)) (Nat.ble (aj x.2) (Nat.succ (aj h)))) (some ⟨σ,h,x.1,aJ h (cJ (aj h) x.2)⟩) none:=by
    unfold dN;rw [hw];rfl
   have lb:aj (cr (α:=Option Blk) (aj h) none)=aj h:=by rw [iJ,ah,List.length_replicate]
   rcases hm σ with hm|⟨v,hm⟩|⟨g,B,hm⟩
   ·rw [hm,gn]
    rw [hsd,hm];rfl
   ·rw [hm,go v h _ (fun c=>(hni c).elim)]
    rw [hsd,hm]
    show bq (and (Nat.ble (aj h) (aj (cr (aj h) none))) (Nat.ble (aj (cr (aj h) none)) (Nat.succ (aj h)))) (some (⟨σ,h,v,aJ h (cJ (aj h) (cr (aj h) none))⟩:Tr)) none=_
    rw [lb,bL,bL,decide_eq_true (Nat.le_refl _),decide_eq_true (Nat.le_succ _),ba,aP,List.drop_eq_nil_of_le (by rw [←ah,lb];exact Nat.le_refl _),List.append_nil]
    rfl
   ·rw [hm,go (g (aj h)) (aJ h [B]) _ (fun c=>(hni c).elim)]
    rw [hsd,hm]
    show bq (and (Nat.ble (aj h) (aj (aJ (cr (aj h) none) [B]))) (Nat.ble (aj (aJ (cr (aj h) none) [B])) (Nat.succ (aj h)))) (some (⟨σ,h,g (aj (cr (α:=Option Blk) (aj h) none)),aJ h (cJ (aj h) (aJ (cr (aj h) none) [B]))⟩:Tr)) none=_
    have l2:aj (aJ (cr (aj h) none) [B])=aj h+1:=by rw [aP,ah,List.length_append,←ah,lb];rfl
    have l3:cJ (aj h) (aJ (cr (α:=Option Blk) (aj h) none) [B])=[B]:=by
     rw [ba,aP,List.drop_append_of_le_length (by rw [←ah,lb];exact Nat.le_refl _),List.drop_eq_nil_of_le (by rw [←ah,lb];exact Nat.le_refl _),List.nil_append]
    rw [l2,lb,bL,bL,decide_eq_true (Nat.le_succ _),decide_eq_true (Nat.le_refl _),l3]
    rfl
  |false=>
   cases he:d.ef with
   |true=>
    have hh:=H.ef d hd hw he
    have hin:tr.length∈pl.map (·.1)→False:=fun c=>by
     obtain ⟨p,hp,e⟩:=List.mem_map.1 c
     have:=(hnj p hp e).2.1
     rw [he] at this;cases this
    have hwr:gq (pl.map (·.1)) tr.length d=leK d.op:=by unfold gq;rw [he];rfl
    have hsd:dN C run T d tr σ h=au (vhO (d.op.f C run σ T h kVH)) fun x=>bq (Nat.ble (aj h) (aj x.2)) (some ⟨σ,h,x.1,x.2⟩) none:=by
     unfold dN;rw [hw,hh,he,ay];rfl
    rw [hwr]
    show _=d.op.f C run σ T h fun v h'=>bq (Nat.ble (aj h) (aj h')) (gR C run fl T (gN (pl.map (·.1)) l (tr.length+1)) (v::σ) h') none
    rcases H.nat d hd σ h with hn|⟨v,h',hn⟩
    ·rw [hn,gn]
     rw [hsd,hn];rfl
    ·rw [hn]
     have hsd:dN C run T d tr σ h=bq (Nat.ble (aj h) (aj h')) (some ⟨σ,h,v,h'⟩) none:=by rw [hsd,hn];rfl
     cases hb:Nat.ble (aj h) (aj h') with
     |true=>rw [aw,go v h' (by rw [hsd,hb];rfl) (fun c=>(hin c).elim)]
     |false=>rw [ay,gn (by rw [hsd,hb];rfl)]
   |false=>
    have hsd: ∀v,(∃F:AH→Ka→Option Rs,F=d.op.f C run σ T)→vhO (d.op.f C run σ T (dy (dJ tr d.hide) h) kVH)=some v→dN C run T d tr σ h=some ⟨σ,h,v.1,h⟩:=fun v _ e=>by
     unfold dN;rw [hw,ay]
     show au (vhO (d.op.f C run σ T (dy (dJ tr d.hide) h) kVH)) _=_
     rw [e,he];rfl
    have hsn:vhO (d.op.f C run σ T (dy (dJ tr d.hide) h) kVH)=none→dN C run T d tr σ h=none:=fun e=>by
     unfold dN;rw [hw,ay]
     show au (vhO (d.op.f C run σ T (dy (dJ tr d.hide) h) kVH)) _=_
     rw [e];rfl
    have main: ∀v:AV,(∀κ,d.op.f C run σ T h κ=κ v h)→dN C run T d tr σ h=some ⟨σ,h,v,h⟩→(tr.length∈pl.map (·.1)→ ∀h2,vhO (d.op.f C run σ T h2 kVH)=some (v,h2))→
     au (eJ C run T (d::l) tr σ h) (sf C run fl T D pl)=(gq (pl.map (·.1)) tr.length d).f C run σ T h fun v=>gR C run fl T (gN (pl.map (·.1)) l (tr.length+1)) (v::σ):=fun v hv hs hp=>by
     cases hin:rH tr.length (pl.map (·.1)) with
     |false=>
      have hni:tr.length∈pl.map (·.1)→False:=fun c=>by rw [mM.2 c] at hin;cases hin
      have hwr:gq (pl.map (·.1)) tr.length d=d.op:=by unfold gq;rw [he,hin];rfl
      rw [hwr,hv,go v h hs (fun c=>(hni c).elim)]
     |true=>
      have hwr:gq (pl.map (·.1)) tr.length d=ltK d.op:=by unfold gq;rw [he,hin];rfl
      rw [hwr]
      show _=d.op.f C run σ T h fun v h'=>bq (AV.lt (aj h) v) (gR C run fl T (gN (pl.map (·.1)) l (tr.length+1)) (v::σ) h') none
      rw [hv]
      cases hlt:AV.lt (aj h) v with
      |true=>rw [aw,go v h hs (fun c=>⟨hlt,hp c⟩)]
      |false=>
       rw [ay]
       show au (au (dN C run T d tr σ h) fun r=>eJ C run T l (aJ tr [r]) (r.v::σ) r.h') _=none
       rw [hs,aT,aP]
       cases ht:eJ C run T l (tr++[⟨σ,h,v,h⟩]) (v::σ) h with
       |none=>rfl
       |some x=>
        obtain ⟨tr',σ',h'⟩:=x
        obtain ⟨m,rfl,hm⟩:=wi l ht
        obtain ⟨p,hp1,hp2⟩:=List.mem_map.1 (mM.1 hin)
        show sf C run fl T D pl (_,σ',h')=none
        unfold sf
        have:fY (mS C run T D (tr++[⟨σ,h,v,h⟩]++m)) pl=false:=by
         rw [Bool.eq_false_iff]
         intro c
         have:=ue.1 c p hp1
         unfold mS at this
         have a1:(tr++[⟨σ,h,v,h⟩]++m)[p.1]? =some ⟨σ,h,v,h⟩:=by
          have hp2:p.1=tr.length:=hp2
          rw [hp2,List.append_assoc,List.getElem?_append_right (Nat.le_refl _),Nat.sub_self];rfl
         have a2:D[p.1]? =some d:=by
          have hp2:p.1=tr.length:=hp2
          rw [hp2];exact hDj
         rw [bt,bt,bt,a1,a2] at this
         split at this
         ·rename_i o r e h1 h2 h3
          cases h2
          rw [show AV.lt (aj h) v=false from hlt] at this
          cases this
         ·cases this
        rw [this];rfl
    rcases H.rd d hd hw he with hp|⟨hh,hr⟩
    ·rcases hp σ with hp|⟨v,hp⟩
     ·rw [gn (hsn (by rw [hp];rfl))]
      have hz: ∀o:OK,(∀κ,o.f C run σ T h κ=none)→ ∀κ,(bq (rH tr.length (pl.map (·.1))) (ltK o) o).f C run σ T h κ=none:=fun o ho κ=>by
       cases rH tr.length (pl.map (·.1)) with
       |true=>exact ho _
       |false=>exact ho _
      unfold gq
      rw [he,ay]
      exact (hz d.op (hp h) _).symm
     ·exact main v (hp h) (hsd (v,_) ⟨_,rfl⟩ (by rw [hp];rfl)) (fun _ h2=>by rw [hp];rfl)
    ·have hb:dy (dJ tr d.hide) h=h:=by rw [hh];rfl
     rcases hr σ h with hp|⟨v,hp⟩
     ·rw [gn (hsn (by rw [hb,hp];rfl))]
      have hz: ∀o:OK,(∀κ,o.f C run σ T h κ=none)→ ∀κ,(bq (rH tr.length (pl.map (·.1))) (ltK o) o).f C run σ T h κ=none:=fun o ho κ=>by
       cases rH tr.length (pl.map (·.1)) with
       |true=>exact ho _
       |false=>exact ho _
      unfold gq
      rw [he,ay]
      exact (hz d.op hp _).symm
     ·refine main v hp (hsd (v,_) ⟨_,rfl⟩ (by rw [hb,hp];rfl)) (fun c h2=>?_)
      obtain ⟨p,hp1,hp2⟩:=List.mem_map.1 c
      rcases (hnj p hp1 hp2).2.2 σ with q|⟨v',q⟩
      ·have:=hp kVH
       rw [q] at this;cases this
      ·have e1:=hp kVH
       rw [q] at e1
       cases e1
       rw [q];rfl
theorem agY {C:Cx} {d:DOp} (hd:ss C d.op) (ks:List Nat) (j:Nat):ss C (gq ks j d):=by
 intro run σ T h
 unfold gq
 have a:aU ((leK d.op).f C run σ T h):=by
  rcases hd run σ T h with hn|⟨v,h',hn⟩
  ·exact .inl fun κ=>hn _
  ·have e: ∀κ:Ka,(leK d.op).f C run σ T h κ=bq (Nat.ble (aj h) (aj h')) (κ v h') none:=fun κ=>hn _
   cases hb:Nat.ble (aj h) (aj h') with
   |true=>exact .inr ⟨v,h',fun κ=>by rw [e,hb];rfl⟩
   |false=>exact .inl fun κ=>by rw [e,hb];rfl
 have b:aU ((ltK d.op).f C run σ T h):=by
  rcases hd run σ T h with hn|⟨v,h',hn⟩
  ·exact .inl fun κ=>hn _
  ·have e: ∀κ:Ka,(ltK d.op).f C run σ T h κ=bq (AV.lt (aj h) v) (κ v h') none:=fun κ=>hn _
   cases hb:AV.lt (aj h) v with
   |true=>exact .inr ⟨v,h',fun κ=>by rw [e,hb];rfl⟩
   |false=>exact .inl fun κ=>by rw [e,hb];rfl
 cases d.ef with
 |true=>exact a
 |false=>
  cases rH j ks with
  |true=>exact b
  |false=>exact hd run σ T h
theorem nW {C:Cx} (ks:List Nat): ∀(D:List DOp) (j:Nat),(∀d∈D,ss C d.op)→ ∀o∈gN ks D j,ss C o
 |[],_,_,o,ho=>by cases ho
 |d::D,j,hd,o,ho=>by
  have ho:o∈gq ks j d::gN ks D (Nat.succ j):=ho
  rcases List.mem_cons.1 ho with rfl|ho
  ·exact agY (hd d (List.mem_cons_self ..)) ks j
  ·exact nW ks D _ (fun d h=>hd d (List.mem_cons_of_mem _ h)) o ho
theorem iR {C:Cx} {ops:Array Oper} (hb:uC C ops=true) (run:Run) (T:Tms):akd C run T (bC C ops.toList (bM ops.toList) 0 (aV C ops.toList [] ops.toList)) (bo C ops):=by
 unfold uC at hb
 simp only [Bool.and_eq_true] at hb
 obtain ⟨h1,h2⟩:=hb
 have get: ∀{j:Nat} {d:DOp},(bC C ops.toList (bM ops.toList) 0 (aV C ops.toList [] ops.toList))[j]? =some d→ ∃o ds,ops.toList[j]? =some o∧d=⟨jP C ops.toList ds o,gJ C ops.toList (bM ops.toList) j,mkB C o.op,dW C o.op⟩∧ops.toList.getD j default=o:=by
  intro j d hd
  rw [kH,kg] at hd
  cases ho:ops.toList[j]? with
  |none=>rw [ho] at hd;simp at hd
  |some o=>
   rw [ho] at hd
   simp only [Option.map_some,Option.some.injEq,Nat.zero_add] at hd
   have e:ops.toList.getD j default=o:=by rw [List.getD_eq_getElem?_getD,ho];rfl
   rw [e] at hd
   exact ⟨o,_,rfl,hd.symm,e⟩
 have mem: ∀{d:DOp},d∈bC C ops.toList (bM ops.toList) 0 (aV C ops.toList [] ops.toList)→ ∃j o ds,ops.toList[j]? =some o∧d=⟨jP C ops.toList ds o,gJ C ops.toList (bM ops.toList) j,mkB C o.op,dW C o.op⟩∧ops.toList.getD j default=o:=by
  intro d hd
  obtain ⟨j,hj⟩:=List.getElem?_of_mem hd
  exact ⟨j,get hj⟩
 have at1: ∀{j:Nat} {o:Oper},ops.toList[j]? =some o→ops.toList.getD j default=o→(mkB C o.op||(dW C o.op&&isE (gJ C ops.toList (bM ops.toList) j))||(!dW C o.op&&(ae1 C o.op||(akz C o.op&&isE (gJ C ops.toList (bM ops.toList) j)))))=true:=by
  intro j o ho e
  have:=List.all_eq_true.1 h1 j (List.mem_range.2 (List.getElem?_eq_some_iff.1 ho).1)
  rw [e] at this
  exact this
 constructor
 ·intro d hd σ h
  obtain ⟨j,o,ds,_,rfl,_⟩:=mem hd
  exact N_gd _ _ (N_op _)
 ·intro d hd hw
  obtain ⟨j,o,ds,_,rfl,_⟩:=mem hd
  exact ⟨acW hw,fun σ=>M_gd _ _ (M_op hw)⟩
 ·intro d hd hw he
  obtain ⟨j,o,ds,ho,rfl,e⟩:=mem hd
  have:=at1 ho e
  rw [show mkB C o.op=false from hw,show dW C o.op=true from he] at this
  simp at this
  exact aeV this
 ·intro d hd hw he
  obtain ⟨j,o,ds,ho,rfl,e⟩:=mem hd
  have:=at1 ho e
  rw [show mkB C o.op=false from hw,show dW C o.op=false from he] at this
  simp at this
  rcases this with hp|⟨hr,hh⟩
  ·exact .inl fun σ=>P_gd _ _ (P_op hp)
  ·exact .inr ⟨aeV hh,fun σ=>R_gd _ _ (R_op hr)⟩
 ·intro p hp
  have:=List.all_eq_true.1 h2 p hp
  simp only [Bool.and_eq_true,Bool.not_eq_true'] at this
  obtain ⟨⟨l1,l2⟩,⟨q1,q2⟩,q3⟩:=this
  rw [vS,decide_eq_true_iff] at l1 l2
  have hlen:(bC C ops.toList (bM ops.toList) 0 (aV C ops.toList [] ops.toList)).length=ops.toList.length:=by
   apply Nat.le_antisymm
   ·apply Nat.le_of_not_lt
    intro c
    have hd:=List.getElem?_eq_getElem c
    obtain ⟨o,ds,ho,_⟩:=get hd
    rw [List.getElem?_eq_none (Nat.le_refl _)] at ho;cases ho
   ·apply Nat.le_of_not_lt
    intro c
    have:=kH (C:=C) ops.toList (bM ops.toList) (aV C ops.toList [] ops.toList) 0 (bC C ops.toList (bM ops.toList) 0 (aV C ops.toList [] ops.toList)).length
    rw [List.getElem?_eq_none (Nat.le_refl _),kg,List.getElem?_eq_getElem c] at this
    simp at this
  have hd:=List.getElem?_eq_getElem (show p.1<(bC C ops.toList (bM ops.toList) 0 (aV C ops.toList [] ops.toList)).length by rw [hlen];exact l1)
  obtain ⟨o,ds,ho,hde,e⟩:=get hd
  rw [e] at q1 q2 q3
  rw [hde] at hd
  exact ⟨_,hd,by rw [hlen];exact l2,q2,q3,fun σ=>P_gd _ _ (P_op q1)⟩
theorem cE {lp:Lp} {k:K} {ops:Array Oper} {ps:List Nat} (hb:uC C ops=true) (hk:k= .draw (bC C ops.toList (bM ops.toList) 0 (aV C ops.toList [] ops.toList)) (bo C ops) (flL ps ops.toList)) (s:St) (κn:Kt) (κx:Ex→Kt):
 kc C run lp k s κn κx=kc C run lp (.reg (gN ((bo C ops).map (·.1)) (bC C ops.toList (bM ops.toList) 0 (aV C ops.toList [] ops.toList)) 0) (flL ps ops.toList)) s κn κx:=by
 have H:=iR hb run s.t
 subst hk
 have hn:eF C (.draw (bC C ops.toList (bM ops.toList) 0 (aV C ops.toList [] ops.toList)) (bo C ops) (flL ps ops.toList)):=by unfold eF;trivial
 have hr:eF C (.reg (gN ((bo C ops).map (·.1)) (bC C ops.toList (bM ops.toList) 0 (aV C ops.toList [] ops.toList)) 0) (flL ps ops.toList)):=by
  unfold eF
  exact nW _ _ _ fun d hd=>fun run σ T h=>(iR hb run T).nat d hd σ h
 rw [lS _ hn,lS _ hr]
 have:=uM (fl:=flL ps ops.toList) H (bC C ops.toList (bM ops.toList) 0 (aV C ops.toList [] ops.toList)) [] [] [] s.h rfl rfl (fun i d r _ h2=>by simp at h2)
 show kcR κn κx (fC (jR C run (flL ps ops.toList) s.t _ (bo C ops) s.h))=kcR κn κx (fC (gR C run (flL ps ops.toList) s.t (gN _ _ 0) [] s.h))
 exact congrArg (fun x=>kcR κn κx (fC x)) this
end
noncomputable section
def kc2 (F G:Kt→Option Rs) (κn:Kt):Option Rs:=F fun s1=>G fun s2=>bq (ae4 s1 s2) (κn s1) none
end
theorem ab0 (s:St):ae4 s s=true:=by
 show and (jo s.t s.t) (gm s.h s.h)=true
 rw [oF,kS];rfl
section
variable {C:Cx} {run:Run} {lp:Lp}
theorem aif (l:List OK) (fl:List (Nat×Nat)) (hl: ∀o∈l,ss C o) (s:St) (κn:Kt) (κx:Ex→Kt):kc C run lp (.reg l fl) s κn κx=kcR κn κx (fC (gR C run fl s.t l [] s.h)):=by
 have hr:eF C (.reg l fl):=by unfold eF;exact hl
 rw [lS _ hr];rfl
theorem xd {k:K} {ops1 ops2:Array Oper} {ps:List Nat} (hb1:uC C ops1=true) (hb2:uC C ops2=true)
 (hk:k= .draw2 (bC C ops1.toList (bM ops1.toList) 0 (aV C ops1.toList [] ops1.toList)) (bo C ops1) (flL ps ops1.toList) (bC C ops2.toList (bM ops2.toList) 0 (aV C ops2.toList [] ops2.toList)) (bo C ops2) (flL ps ops2.toList)) (s:St) (κn:Kt) (κx:Ex→Kt):
 kc C run lp k s κn κx=kc2 (fun κ=>kc C run lp (.reg (gN ((bo C ops1).map (·.1)) (bC C ops1.toList (bM ops1.toList) 0 (aV C ops1.toList [] ops1.toList)) 0) (flL ps ops1.toList)) s κ κx)
  (fun κ=>kc C run lp (.reg (gN ((bo C ops2).map (·.1)) (bC C ops2.toList (bM ops2.toList) 0 (aV C ops2.toList [] ops2.toList)) 0) (flL ps ops2.toList)) s κ κx) κn:=by
 have n1:=nW (C:=C) ((bo C ops1).map (·.1)) (bC C ops1.toList (bM ops1.toList) 0 (aV C ops1.toList [] ops1.toList)) 0 fun d hd=>fun run σ T h=>(iR hb1 run T).nat d hd σ h
 have n2:=nW (C:=C) ((bo C ops2).map (·.1)) (bC C ops2.toList (bM ops2.toList) 0 (aV C ops2.toList [] ops2.toList)) 0 fun d hd=>fun run σ T h=>(iR hb2 run T).nat d hd σ h
 have e1:jR C run (flL ps ops1.toList) s.t _ (bo C ops1) s.h=gR C run (flL ps ops1.toList) s.t (gN ((bo C ops1).map (·.1)) (bC C ops1.toList (bM ops1.toList) 0 (aV C ops1.toList [] ops1.toList)) 0) [] s.h:=
  uM (fl:=flL ps ops1.toList) (iR hb1 run s.t) (bC C ops1.toList (bM ops1.toList) 0 (aV C ops1.toList [] ops1.toList)) [] [] [] s.h rfl rfl (fun i d r _ h2=>by simp at h2)
 have e2:jR C run (flL ps ops2.toList) s.t _ (bo C ops2) s.h=gR C run (flL ps ops2.toList) s.t (gN ((bo C ops2).map (·.1)) (bC C ops2.toList (bM ops2.toList) 0 (aV C ops2.toList [] ops2.toList)) 0) [] s.h:=
  uM (fl:=flL ps ops2.toList) (iR hb2 run s.t) (bC C ops2.toList (bM ops2.toList) 0 (aV C ops2.toList [] ops2.toList)) [] [] [] s.h rfl rfl (fun i d r _ h2=>by simp at h2)
 subst hk
 have hn:eF C (.draw2 (bC C ops1.toList (bM ops1.toList) 0 (aV C ops1.toList [] ops1.toList)) (bo C ops1) (flL ps ops1.toList) (bC C ops2.toList (bM ops2.toList) 0 (aV C ops2.toList [] ops2.toList)) (bo C ops2) (flL ps ops2.toList)):=by unfold eF;trivial
 rw [lS _ hn]
 unfold kc2
 simp only [aif _ _ n1,aif _ _ n2]
 show kcR κn κx (fC (au (jR C run (flL ps ops1.toList) s.t _ (bo C ops1) s.h) fun r=>bq (alF r (jR C run (flL ps ops2.toList) s.t _ (bo C ops2) s.h)) (some r) none))=_
 rw [e1,e2]
 generalize gR C run (flL ps ops1.toList) s.t _ [] s.h=A1
 generalize gR C run (flL ps ops2.toList) s.t _ [] s.h=A2
 rcases A1 with _|(⟨t,h⟩|⟨v,h⟩)
 ·rfl
 ·rcases A2 with _|(⟨t',h'⟩|⟨v',h'⟩)
  ·rfl
  ·show kcR κn κx (fC (bq (and (jo t t') (gm h h')) (some (.st t h)) none))=bq (and (jo t t') (gm h h')) (κn ⟨t,h⟩) none
   cases and (jo t t') (gm h h')<;>rfl
  ·rfl
 ·rfl
end
noncomputable section
def adX (C:Cx) (run:Run) (fl:List (Nat×Nat)) (t:Tms) (D:List DOp) (pl:List (Nat×Nat)):List DOp→List Tr→List AV→AH→Option Rs
 |[],tr,σ,h=>bq (fY (mS C run t D tr) pl) (some (.st (bZ σ t fl) h)) none
 |o::l,tr,σ,h=>au (dN C run t o tr σ h) fun r=>adX C run fl t D pl l (aJ tr [r]) (r.v::σ) r.h'
def sRd (σ:List AV) (h:AH) (q:Option Rs) (k:Tr→Option Rs):Option Rs:=au (au (vhO q) fun x=>some ⟨σ,h,x.1,h⟩) k
def sEf (σ:List AV) (h:AH) (q:Option Rs) (k:Tr→Option Rs):Option Rs:=au (au (vhO q) fun x=>bq (Nat.ble (aj h) (aj x.2)) (some ⟨σ,h,x.1,x.2⟩) none) k
def sMk (σ:List AV) (h:AH) (q:AH→Option Rs) (k:Tr→Option Rs):Option Rs:=au (au (vhO (q (cr (aj h) none))) fun x=>bq (and (Nat.ble (aj h) (aj x.2)) (Nat.ble (aj x.2) (Nat.succ (aj h)))) (some ⟨σ,h,x.1,aJ h (cJ (aj h) x.2)⟩) none) k
def cz (r:Tr) (q:Option Rs):Bool:=and (AV.lt (aj r.h) r.v) (isV r.v (vhO q))
end
section
variable {C:Cx} {run:Run} {lp:Lp}
theorem aa3 (fl:List (Nat×Nat)) (t:Tms) (D:List DOp) (pl:List (Nat×Nat)): ∀(l:List DOp) (tr:List Tr) (σ:List AV) (h:AH),
 adX C run fl t D pl l tr σ h=au (eJ C run t l tr σ h) fun x=>bq (fY (mS C run t D x.1) pl) (some (.st (bZ x.2.1 t fl) x.2.2)) none
 |[],tr,σ,h=>rfl
 |o::l,tr,σ,h=>by
  show au (dN C run t o tr σ h) (fun r=>adX C run fl t D pl l (aJ tr [r]) (r.v::σ) r.h')=au (au (dN C run t o tr σ h) fun r=>eJ C run t l (aJ tr [r]) (r.v::σ) r.h') _
  cases dN C run t o tr σ h with
  |none=>rfl
  |some r=>exact aa3 fl t D pl l (aJ tr [r]) (r.v::σ) r.h'
theorem gL {k:K} {D:List DOp} {pl fl:List (Nat×Nat)} (hk:k= .draw D pl fl) (s:St) (κn:Kt) (κx:Ex→Kt):
 kc C run lp k s κn κx=kcR κn κx (fC (adX C run fl s.t D pl D [] [] s.h)):=by
 subst hk
 have hn:eF C (.draw D pl fl):=by unfold eF;trivial
 rw [lS _ hn,aa3]
 rfl
theorem fN (σ:List AV) (h h':AH) (v:AV) (k:Tr→Option Rs):sRd σ h (some (.vh v h')) k=k ⟨σ,h,v,h⟩:=(rfl)
theorem ij (σ:List AV) (h h':AH) (v:AV) (k:Tr→Option Rs):sEf σ h (some (.vh v h')) k=bq (decide (h.length≤h'.length)) (k ⟨σ,h,v,h'⟩) none:=by
 rw [←ah h,←ah h',←bL]
 show au (bq (Nat.ble (aj h) (aj h')) (some _) none) k=_
 cases Nat.ble (aj h) (aj h')<;>rfl
theorem fV (v:AV) (h:AH):kVH v h=some (.vh v h):=(rfl)
theorem cV (σ:List AV) (h h' h2:AH) (v:AV):cz ⟨σ,h,v,h'⟩ (some (.vh v h2))=AV.lt (aj h) v:=by
 show and (AV.lt (aj h) v) (AV.same v v)=_
 rw [gA];simp
theorem ji (f:OpA):OK.f (.mk f)=f:=(rfl)
theorem mz (σ:List AV) (t:Tms) (i:Nat):ev C σ t (.st i)=oT σ i:=(rfl)
theorem nq (σ:List AV) (t:Tms) (i:Nat):ev C σ t (.tr i)=aW t i:=(rfl)
theorem j2 (a:AV) (σ:List AV):oT (a::σ) 0=a:=(rfl)
theorem jU (a:AV) (σ:List AV) (i:Nat):oT (a::σ) (i+1)=oT σ i:=(rfl)
end
noncomputable section
def aH (C:Cx) (f:Nat):Code:=Option.rec (motive:=fun _=>Code) .skip (fun fn=>match fn.body with|some c=>c|none=>.skip) (C.fn f)
def abX:Code→Code
 | .scope b=>abX b
 |c=>c
def cSub (c:Code) (i:Nat):Code:=
 match abX c with
 | .seq a b=>bq (Nat.beq i 0) a b
 | .cond _ a b=>bq (Nat.beq i 0) a b
 | .block _ b=>b
 | .loop b=>b
 |_=>.skip
def cAt (p:List Nat):Code→Code:=List.rec (motive:=fun _=>Code→Code) (fun c=>c) (fun i _ ih c=>ih (cSub c i)) p
def opsOf (c:Code):Array Oper:=
 match abX c with
 | .region _ ops _=>ops
 |_=> #[]
end
end Go.Proofs.YteapfopaiocpeaaGreatDoor
