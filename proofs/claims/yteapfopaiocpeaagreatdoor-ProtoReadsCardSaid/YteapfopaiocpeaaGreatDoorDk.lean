/- Regions that draw their order, where each order does what the text's does: they are gone through as others, with some questions between. -/
import Derived.Test.YteapfopaiocpeaaGreatDoorME
namespace Go.Proofs.YteapfopaiocpeaaGreatDoor
set_option linter.unusedSimpArgs false
set_option linter.unusedVariables false
set_option linter.unnecessarySimpa false
def bd (F:AH→Ka→Option Rs):Prop:=(∀h κ,F h κ=none)∨ ∃v,∀h κ,F h κ=κ v h
def zm (F:AH→Ka→Option Rs):Prop:=∀h,(∀κ,F h κ=none)∨ ∃v,∀κ,F h κ=κ v h
def dC (F:AH→Ka→Option Rs):Prop:=(∀h κ,F h κ=none)∨(∃v,∀h κ,F h κ=κ v h)∨ ∃(g:Nat→AV) (B:Option Blk),∀h κ,F h κ=κ (g (ag h)) (aF h [B])
theorem bd.read {F:AH→Ka→Option Rs} (p:bd F):zm F:=fun h=>by
 rcases p with p|⟨v,p⟩
 ·exact .inl (p h)
 ·exact .inr ⟨v,p h⟩
section
variable {α:Type} {C:Cx} {run:Run} {σ:List AV} {T:Tms} {x y z:AV} {ds:List (Option Nat)} {h:AH}
theorem P0:bd fun _ _=>none:=.inl fun _ _=>rfl
theorem P1 (v:AV):bd fun h κ=>κ v h:=.inr ⟨v,fun _ _=>rfl⟩
theorem Pb (c:Bool) {F G:AH→Ka→Option Rs} (hF:bd F) (hG:bd G):bd fun h κ=>bq c (F h κ) (G h κ):=by cases c<;>assumption
theorem Po (o:Option α) {F:α→AH→Ka→Option Rs} (H: ∀a,bd (F a)):bd fun h κ=>aq o fun a=>F a h κ:=by
 cases o with
 |none=>exact P0
 |some a=>exact H a
theorem lM (x:AV) {F:Nat→Int→AH→Ka→Option Rs} (H: ∀k n,bd (F k n)):bd fun h κ=>cO x fun k n=>F k n h κ:=by cases x<;>first|exact H _ _|exact P0
theorem apE (x:AV) {F:Bool→AH→Ka→Option Rs} (H: ∀b,bd (F b)):bd fun h κ=>l9 x fun b=>F b h κ:=by cases x<;>first|exact H _|exact P0
theorem aa7 (x:AV) {F:List Nat→AH→Ka→Option Rs} (H: ∀b,bd (F b)):bd fun h κ=>gK x fun b=>F b h κ:=by cases x<;>first|exact H _|exact P0
theorem PPtr (x:AV) {F:Nat→Nat→AH→Ka→Option Rs} {G:List AV→Nat→AH→Ka→Option Rs} (H: ∀b o,bd (F b o)) (H': ∀b o,bd (G b o)):bd fun h κ=>lj x (fun b o=>F b o h κ) (fun c o=>G c o h κ):=by
 cases x<;>first|exact H _ _|exact H' _ _|exact P0
theorem PAgg (x:AV) {F:List AV→AH→Ka→Option Rs} (H: ∀b,bd (F b)):bd fun h κ=>rC x fun b=>F b h κ:=by cases x<;>first|exact H _|exact P0
theorem PTup (x:AV) {F:List AV→AH→Ka→Option Rs} (H: ∀b,bd (F b)):bd fun h κ=>adi x fun b=>F b h κ:=by cases x<;>first|exact H _|exact P0
theorem ap6 (x:AV) {A:AH→Ka→Option Rs} {F:Nat→Nat→Nat→Nat→Nat→Bool→AH→Ka→Option Rs} {G:List AV→Nat→AH→Ka→Option Rs} (HA:bd A) (H: ∀b o l c z e,bd (F b o l c z e)) (H': ∀b o,bd (G b o)):
 bd fun h κ=>lh x (A h κ) (fun b o l c z e=>F b o l c z e h κ) (fun c o=>G c o h κ):=by
 cases x<;>first|exact H _ _ _ _ _ _|exact H' _ _|exact HA|exact P0
theorem asG (x:AV) {A:AH→Ka→Option Rs} (HA:bd A):bd fun h κ=>aa3 x (A h κ):=by cases x<;>first|exact HA|exact P0
theorem PV (v:Option AV):bd fun h κ=>pn κ h v:=Po v fun v=>P1 v
theorem ara (i:Int) {F:Nat→AH→Ka→Option Rs} (H: ∀b,bd (F b)):bd fun h κ=>ve i fun b=>F b h κ:=by cases i<;>first|exact H _|exact P0
theorem akH (i:Int) (n:Nat) {F:Nat→AH→Ka→Option Rs} (H: ∀b,bd (F b)):bd fun h κ=>inB i n fun b=>F b h κ:=ara i fun m=>Pb _ (H m) P0
theorem aqp (len cap:Nat) (lo hi mx:Option AV) {F:Nat→Nat→Nat→AH→Ka→Option Rs} (H: ∀l u m,bd (F l u m)):bd fun h κ=>nP len cap lo hi mx fun l u m=>F l u m h κ:=
 Po _ fun l=>Po _ fun u=>Po _ fun m=>Pb _ (H l u m) P0
theorem adx (n:Nat):bd fun h κ=>aj n x h κ:=PPtr x (fun _ _=>P1 _) fun _ _=>P1 _
theorem ai4 (o:Nat):bd fun h κ=>uB o x h κ:=PAgg x fun cs=>PV _
theorem aln (o n:Nat):bd fun h κ=>tJ o n x h κ:=PAgg x fun cs=>Pb _ (P1 _) P0
theorem iD:bd (no.f C run σ T):=P0
theorem uY (t:Nat) {f:TI→OK} (H: ∀ti,bd ((f ti).f C run σ T)):bd ((tyK C t f).f C run σ T):=by
 unfold tyK
 split
 ·exact H _
 ·exact iD
theorem aoV (c:Bool) {k l:OK} (hk:bd (k.f C run σ T)) (hl:bd (l.f C run σ T)):bd ((bq c k l).f C run σ T):=by cases c<;>assumption
theorem P_nz (n:Nat) {k:OK} (hk:bd (k.f C run σ T)):bd ((nz n k).f C run σ T):=aoV _ iD hk
theorem asB (op:BinOp) (k:IntKind) (a b:Od):bd ((wy op k a b).f C run σ T):=by
 cases op<;>first
  |exact lM _ fun k a=>lM _ fun k' b=>Pb _ (P1 _) P0
  |exact lM _ fun k a=>Pb _ (lM _ fun k' b=>Pb _ (P1 _) P0) P0
  |exact lM _ fun k a=>lM _ fun k' b=>ara b fun s=>Pb _ (P1 _) P0
theorem asH (op:BinOp) (a b:Od):bd ((vu op a b).f C run σ T):=by
 cases op<;>first|exact aa7 _ fun _=>aa7 _ fun _=>P1 _|exact aa7 _ fun _=>aa7 _ fun _=>Pb _ (P1 _) P0|exact iD
theorem as5 (op:BinOp) (ti:TI) (a b:Od):bd ((abQ op ti a b).f C run σ T):=by
 unfold abQ
 split
 ·exact asB _ _ _ _
 ·exact asH _ _ _
 ·split
  ·exact Po _ fun _=>P1 _
  ·exact Po _ fun _=>P1 _
  ·exact iD
theorem P_un (op:UnOp) (ti:TI) (a:Od):bd ((unK op ti a).f C run σ T):=by
 unfold unK
 split
 ·exact lM _ fun _ n=>P1 _
 ·exact apE _ fun _=>P1 _
 ·exact lM _ fun _ n=>Pb _ (P1 _) P0
 ·exact iD
theorem api (x:Od) (w:Bool) {k:OK} (hk:bd (k.f C run σ T)):bd ((OK.mk (yn x w k.f)).f C run σ T):=Po _ fun b=>Pb b hk (P1 _)
theorem P_gd (ops:List Oper) (g:Option (Nat×Bool)) {k:OK} (hk:bd (k.f C run σ T)):bd ((gdK ops ds g k).f C run σ T):=by
 unfold gdK
 split
 ·exact hk
 ·split
  ·split
   ·exact api _ _ hk
   ·exact iD
  ·exact iD
end
noncomputable section
def fY (C:Cx) (t:Nat) (p:TK→Bool):Bool:=
 match C.ty t with
 |some ti=>p ti.kind
 |none=>true
def adG (C:Cx):Op→Bool
 | .move _| .assign _| .pick .. | .nilCheck _| .unOp .. | .extract .. | .fieldAddr .. | .field .. | .build .. | .binOp .. | .indexAddr .. | .index .. =>true
 | .convert s d _=>fY C s fun k=>match k with
   | .int _=>true
   |_=>false
 | .slice ty .. =>fY C ty fun k=>match k with
   | .array _ _=>false
   |_=>true
 | .call c=>match c.callee with
   | .builtin .len=>match c.argTypes.toList with
     |t::_=>fY C t fun k=>match k with
      | .map _ _=>false
      |_=>true
     |[]=>true
   | .builtin .min| .builtin .max=>true
   |_=>false
 |_=>false
def ajW (C:Cx):Op→Bool
 | .load .. | .lookup .. =>true
 | .convert _ d _=>fY C d fun k=>match k with
   | .string=>true
   |_=>false
 |_=>false
end
section
variable {C:Cx} {run:Run} {σ:List AV} {T:Tms} {ds:List (Option Nat)}
theorem P_op {o:Op} (hp:adG C o=true):bd ((opK C ds o).f C run σ T):=by
 cases o<;>try (cases hp;done)
 case move x=>exact P1 _
 case assign x=>exact P1 _
 case pick c x y=>exact apE _ fun _=>P1 _
 case build t ps=>
  refine uY _ fun ti=>?_
  split
  ·exact aoV _ (Po _ fun _=>P1 _) iD
  ·exact uY _ fun ei=>Po _ fun _=>P1 _
  ·exact iD
 case nilCheck x=>exact asG _ (P1 _)
 case binOp op t x y ty=>exact uY _ fun ti=>as5 _ _ _ _
 case unOp op t x=>exact uY _ fun ti=>P_un _ _ _
 case convert s d x=>
  replace hp:fY C s (fun k=>match k with| .int _=>true|_=>false)=true:=hp
  unfold fY at hp
  show bd ((tyK C s fun si=>tyK C d fun di=>gX C (Nat.beq s d) si di (od ds x)).f C run σ T)
  unfold tyK
  split
  ·rename_i si hs
   rw [hs] at hp
   split
   ·rename_i di hd
    show bd ((gX C (Nat.beq s d) si di (od ds x)).f C run σ T)
    unfold gX
    split
    ·exact lM _ fun _ n=>P1 _
    all_goals (rename_i k1 _;try rename_i k2;simp_all)
    all_goals exact iD
   ·exact iD
  ·exact iD
 case slice t x lo hi mx=>
  replace hp:fY C t (fun k=>match k with| .array _ _=>false|_=>true)=true:=hp
  unfold fY at hp
  show bd ((tyK C t fun ti=>match ti.kind with
  | .string=>match mx with
    |none=>.mk (oSlT (od ds x) (lo.map (od ds)) (hi.map (od ds)))
    |some _=>no
  | .slice e=>tyK C e fun ei=>.mk (oSlS ei.size (od ds x) (lo.map (od ds)) (hi.map (od ds)) (mx.map (od ds)))
  | .array n e=>match mx with
    |none=>tyK C e fun ei=>nz ei.size (.mk (oSlA n ei.size (od ds x) (lo.map (od ds)) (hi.map (od ds))))
    |some _=>no
  |_=>no).f C run σ T)
  unfold tyK
  split
  ·rename_i ti ht
   rw [ht] at hp
   dsimp only at hp ⊢
   split
   ·split
    ·exact aa7 _ fun s=>Po _ fun l=>Po _ fun u=>Pb _ (P1 _) P0
    ·exact iD
   ·exact uY _ fun ei=>ap6 _ (aqp _ _ _ _ _ fun _ _ _=>P1 _) (fun b o l c z e=>aqp _ _ _ _ _ fun _ _ _=>Pb _ (Pb _ (P1 _) (P1 _)) P0) fun cs l=>aqp _ _ _ _ _ fun _ _ _=>Pb _ (Pb _ (P1 _) (P1 _)) P0
   ·rename_i hk
    rw [hk] at hp;cases hp
   ·exact iD
  ·exact iD
 case fieldAddr t x f=>
  show bd ((match eo C t f with|some (off,ui)=>nz ui.size (OK.mk (o1 (aj off) (od ds x)))|none=>no).f C run σ T)
  split
  ·exact P_nz _ (adx _)
  ·exact iD
 case field t x f=>
  show bd ((match eo C t f with|some (off,ui)=>bq ui.agg (OK.mk (o1 (tJ off ui.size) (od ds x))) (OK.mk (o1 (uB off) (od ds x)))|none=>no).f C run σ T)
  split
  ·exact aoV _ (aln _ _) (ai4 _)
  ·exact iD
 case indexAddr t x i=>
  refine uY _ fun ti=>?_
  split
  ·exact uY _ fun ei=>lM _ fun _ i=>akH i _ fun m=>adx _
  ·exact uY _ fun ei=>lM _ fun _ i=>ap6 _ P0 (fun b o l c z e=>akH i l fun m=>Pb _ (P1 _) P0) fun cs l=>akH i l fun m=>P1 _
  ·exact iD
 case index t x i=>
  refine uY _ fun ti=>?_
  split
  ·exact uY _ fun ei=>aoV _ (lM _ fun _ i=>akH i _ fun m=>aln _ _) (lM _ fun _ i=>akH i _ fun m=>ai4 _)
  ·exact aa7 _ fun l=>lM _ fun _ i=>ara i fun m=>Po _ fun _=>P1 _
  ·exact iD
 case extract x i=>exact PTup _ fun cs=>PV _
 case call c=>
  replace hp:(match c.callee with
  | .builtin .len=>match c.argTypes.toList with
    |t::_=>fY C t fun k=>match k with
     | .map _ _=>false
     |_=>true
    |[]=>true
  | .builtin .min| .builtin .max=>true
  |_=>false)=true:=hp
  show bd ((pM C c ds).f C run σ T)
  unfold pM
  split at hp
  ·rename_i hc
   rw [hc]
   show bd ((match c.args.toList,c.argTypes.toList with
    |[x],t::_=>tyK C t fun ti=>match ti.kind with
     | .string=>.mk (o1 aiP (od ds x))
     | .slice _=>.mk (o1 bF (od ds x))
     | .map _ _=>.mk (o1 anz (od ds x))
     | .array n _=>.mk (amn (.int 9223372036854775807 (.ofNat n)))
     |_=>no
    |_,_=>no).f C run σ T)
   split
   ·rename_i x t r h1 h2
    rw [h2] at hp
    have hp:fY C t (fun k=>match k with| .map _ _=>false|_=>true)=true:=hp
    unfold fY at hp
    unfold tyK
    split
    ·rename_i ti ht
     rw [ht] at hp
     dsimp only at hp ⊢
     split
     ·exact aa7 _ fun _=>P1 _
     ·exact ap6 _ (P1 _) (fun _ _ _ _ _ _=>P1 _) fun _ _=>P1 _
     ·rename_i hk
      rw [hk] at hp;cases hp
     ·exact P1 _
     ·exact iD
    ·exact iD
   ·exact iD
  ·rename_i hc
   rw [hc]
   show bd ((match c.args.toList with|[x,y]=>OK.mk (o2 (iQ false) (od ds x) (od ds y))|_=>no).f C run σ T)
   split
   ·exact lM _ fun k a=>lM _ fun k' b=>Pb _ (P1 _) P0
   ·exact iD
  ·rename_i hc
   rw [hc]
   show bd ((match c.args.toList with|[x,y]=>OK.mk (o2 (iQ true) (od ds x) (od ds y))|_=>no).f C run σ T)
   split
   ·exact lM _ fun k a=>lM _ fun k' b=>Pb _ (P1 _) P0
   ·exact iD
  ·cases hp
end
section
variable {α:Type} {C:Cx} {run:Run} {σ:List AV} {T:Tms} {ds:List (Option Nat)} {x y:AV}
theorem M0:dC fun _ _=>none:=.inl fun _ _=>rfl
theorem M1 (g:Nat→AV) (B:Option Blk):dC fun h κ=>κ (g (ag h)) (aF h [B]):=.inr (.inr ⟨g,B,fun _ _=>rfl⟩)
theorem Mb (c:Bool) {F G:AH→Ka→Option Rs} (hF:dC F) (hG:dC G):dC fun h κ=>bq c (F h κ) (G h κ):=by cases c<;>assumption
theorem Mo (o:Option α) {F:α→AH→Ka→Option Rs} (H: ∀a,dC (F a)):dC fun h κ=>aq o fun a=>F a h κ:=by
 cases o with
 |none=>exact M0
 |some a=>exact H a
theorem MInt (x:AV) {F:Nat→Int→AH→Ka→Option Rs} (H: ∀k n,dC (F k n)):dC fun h κ=>cO x fun k n=>F k n h κ:=by cases x<;>first|exact H _ _|exact M0
theorem MStr (x:AV) {F:List Nat→AH→Ka→Option Rs} (H: ∀b,dC (F b)):dC fun h κ=>gK x fun b=>F b h κ:=by cases x<;>first|exact H _|exact M0
theorem MPos (i:Int) {F:Nat→AH→Ka→Option Rs} (H: ∀b,dC (F b)):dC fun h κ=>ve i fun b=>F b h κ:=by cases i<;>first|exact H _|exact M0
theorem rI:dC (no.f C run σ T):=M0
theorem ain (t:Nat) {f:TI→OK} (H: ∀ti,dC ((f ti).f C run σ T)):dC ((tyK C t f).f C run σ T):=by
 unfold tyK
 split
 ·exact H _
 ·exact rI
theorem aqI (c:Bool) {k l:OK} (hk:dC (k.f C run σ T)) (hl:dC (l.f C run σ T)):dC ((bq c k l).f C run σ T):=by cases c<;>assumption
theorem am1 (x:Od) (w:Bool) {k:OK} (hk:dC (k.f C run σ T)):dC ((OK.mk (yn x w k.f)).f C run σ T):=Mo _ fun b=>Mb b hk (.inr (.inl ⟨_,fun _ _=>rfl⟩))
theorem M_gd (ops:List Oper) (g:Option (Nat×Bool)) {k:OK} (hk:dC (k.f C run σ T)):dC ((gdK ops ds g k).f C run σ T):=by
 unfold gdK
 split
 ·exact hk
 ·split
  ·split
   ·exact am1 _ _ hk
   ·exact rI
  ·exact rI
theorem ahQ (B:Blk):dC fun h κ=>eH h B κ:=M1 (fun n=>.pto n 0) (some B)
theorem M_op {o:Op} (hm:mkB C o=true):dC ((opK C ds o).f C run σ T):=by
 cases o<;>try (cases hm;done)
 case alloc el=>exact ain _ fun ti=>ahQ _
 case box el x=>exact Mb _ (ahQ _) M0
 case buildSlice t n ps=>
  refine ain _ fun ti=>?_
  split
  ·exact ain _ fun ei=>aqI _ rI (Mb _ (Mo _ fun cs=>M1 (fun k=>.slo k 0 n n ei.size true) (some (rB ei.size n cs 0))) M0)
  ·exact rI
 case convert s d x=>
  replace hm:pf C s d=true:=hm
  unfold pf sliceTo at hm
  show dC ((tyK C s fun si=>tyK C d fun di=>gX C (Nat.beq s d) si di (od ds x)).f C run σ T)
  unfold tyK
  split
  ·rename_i si hs
   rw [hs] at hm
   dsimp only at hm ⊢
   split
   ·rename_i di hd
    rw [hd] at hm
    dsimp only at hm ⊢
    unfold gX
    split
    ·rename_i k1 k2;rw [k1] at hm;cases hm
    ·rename_i k1 k2;rw [k1,k2] at hm;cases hm
    ·exact aqI _ (MStr _ fun l=>M1 (fun n=>.slo n 0 (ag l) (ag l) 1 false) (some (.cells (kL l) 0))) rI
    ·rename_i k1 k2;rw [k1] at hm;cases hm
    ·rename_i k1 k2;rw [k1] at hm;cases hm
    ·exact rI
   ·exact rI
  ·exact rI
 case makeMap t r=>cases r<;>first|exact M1 (fun n=>.mpo n) (some (.map [] []))|exact rI
 case makeSlice t l c=>
  refine ain _ fun ti=>?_
  split
  ·refine ain _ fun ei=>aqI _ rI (MInt _ fun k l=>MInt _ fun k' c=>MPos l fun l=>MPos c fun c=>Mb _ (M1 (fun n=>.slo n 0 l c ei.size true) (some (bq (Nat.blt 64 ei.size) (.rows ei.size (b9 c ei.zero) 0) (.cells (lZ ei.zero c) 0)))) M0)
  ·exact rI
theorem R_op {o:Op} (hr:ajW C o=true):zm ((opK C ds o).f C run σ T):=by
 intro h
 have fin: ∀F:Ka→Option Rs,((∀κ,F κ=none)∨ ∃v,∀κ,F κ=κ v h)→((∀κ,F κ=none)∨ ∃v,∀κ,F κ=κ v h):=fun _ x=>x
 have rv: ∀x:Option AV,(∀κ:Ka,pn κ h x=none)∨ ∃v,∀κ:Ka,pn κ h x=κ v h:=by
  intro x
  cases x with
  |none=>exact .inl fun _=>rfl
  |some v=>exact .inr ⟨v,fun _=>rfl⟩
 have rc: ∀(c:Bool) (v:AV),(∀κ:Ka,bq c (κ v h) none=none)∨ ∃v',∀κ:Ka,bq c (κ v h) none=κ v' h:=by
  intro c v
  cases c with
  |false=>exact .inl fun _=>rfl
  |true=>exact .inr ⟨v,fun _=>rfl⟩
 have n0:(∀κ:Ka,(no.f C run σ T h) κ=none)∨ ∃v,∀κ:Ka,(no.f C run σ T h) κ=κ v h:=.inl fun _=>rfl
 cases o<;>try (cases hr;done)
 case load t p=>
  show (∀κ,(tyK C t fun ti=>bq ti.agg (.mk (o1 (aO ti.size) (od ds p))) (.mk (o1 ao (od ds p)))).f C run σ T h κ=none)∨ ∃v,∀κ,(tyK C t fun ti=>bq ti.agg (.mk (o1 (aO ti.size) (od ds p))) (.mk (o1 ao (od ds p)))).f C run σ T h κ=κ v h
  unfold tyK
  split
  ·rename_i ti _
   dsimp only
   generalize hx:ev C σ T (od ds p)=x
   have hg: ∀n,(∀κ:Ka,aO n x h κ=none)∨ ∃v,∀κ:Ka,aO n x h κ=κ v h:=by
    intro n
    cases x<;>try exact .inl fun _=>rfl
    ·rename_i b o
     show (∀κ:Ka,aq (aa h b) (fun B=>va B (fun cs _=>nI n κ h o cs) fun z ll _=>agt n κ h o z ll)=none)∨ ∃v,∀κ:Ka,aq (aa h b) (fun B=>va B (fun cs _=>nI n κ h o cs) fun z ll _=>agt n κ h o z ll)=κ v h
     cases aa h b with
     |none=>exact .inl fun _=>rfl
     |some B=>cases B with
      |cells cs y=>exact rc (Nat.ble (Nat.add o n) (ag cs)) (hO cs o n)
      |map _ _=>exact .inl fun _=>rfl
      |rows z ll y=>
       show (∀κ:Ka,aq (dD ll (Nat.div o z)) _=none)∨ ∃v,∀κ:Ka,aq (dD ll (Nat.div o z)) _=κ v h
       cases dD ll (Nat.div o z) with
       |none=>exact .inl fun _=>rfl
       |some l=>
        show (∀κ:Ka,bq (and (Nat.beq (Nat.mod o z) 0) (Nat.beq n z)) _ _=none)∨ ∃v,∀κ:Ka,bq (and (Nat.beq (Nat.mod o z) 0) (Nat.beq n z)) _ _=κ v h
        cases and (Nat.beq (Nat.mod o z) 0) (Nat.beq n z) with
        |true=>exact .inr ⟨_,fun _=>rfl⟩
        |false=>exact rc (Nat.ble (Nat.add (Nat.mod o z) n) z) (hO l (Nat.mod o z) n)
    ·rename_i cs o
     exact rc (Nat.ble (Nat.add o n) (ag cs)) (hO cs o n)
   have h1:(∀κ:Ka,ao x h κ=none)∨ ∃v,∀κ:Ka,ao x h κ=κ v h:=by
    cases x<;>try exact .inl fun _=>rfl
    ·rename_i b o
     show (∀κ:Ka,aq (aa h b) (fun B=>va B (fun cs _=>rM κ h o cs) fun z ll _=>afP κ h o z ll)=none)∨ ∃v,∀κ:Ka,aq (aa h b) (fun B=>va B (fun cs _=>rM κ h o cs) fun z ll _=>afP κ h o z ll)=κ v h
     cases aa h b with
     |none=>exact .inl fun _=>rfl
     |some B=>cases B with
      |cells cs y=>exact rv _
      |map _ _=>exact .inl fun _=>rfl
      |rows z ll y=>
       show (∀κ:Ka,aq (dD ll (Nat.div o z)) _=none)∨ ∃v,∀κ:Ka,aq (dD ll (Nat.div o z)) _=κ v h
       cases dD ll (Nat.div o z) with
       |none=>exact .inl fun _=>rfl
       |some l=>exact rv _
    ·exact rv _
   cases ti.agg with
   |true=>
    show (∀κ:Ka,aO ti.size (ev C σ T (od ds p)) h κ=none)∨ ∃v,∀κ:Ka,aO ti.size (ev C σ T (od ds p)) h κ=κ v h
    rw [hx];exact hg _
   |false=>
    show (∀κ:Ka,ao (ev C σ T (od ds p)) h κ=none)∨ ∃v,∀κ:Ka,ao (ev C σ T (od ds p)) h κ=κ v h
    rw [hx];exact h1
  ·exact n0
 case convert s d x=>
  replace hr:fY C d (fun k=>match k with| .string=>true|_=>false)=true:=hr
  unfold fY at hr
  show (∀κ,(tyK C s fun si=>tyK C d fun di=>gX C (Nat.beq s d) si di (od ds x)).f C run σ T h κ=none)∨ ∃v,∀κ,(tyK C s fun si=>tyK C d fun di=>gX C (Nat.beq s d) si di (od ds x)).f C run σ T h κ=κ v h
  have fb: ∀x:AV,(∀κ:Ka,eW x h κ=none)∨ ∃v,∀κ:Ka,eW x h κ=κ v h:=by
   intro x
   unfold eW
   cases pc x with
   |none=>exact .inl fun _=>rfl
   |some n=>
    show (∀κ:Ka,aq (dJ h 1 n x) _=none)∨ ∃v,∀κ:Ka,aq (dJ h 1 n x) _=κ v h
    cases dJ h 1 n x with
    |none=>exact .inl fun _=>rfl
    |some l=>
     show (∀κ:Ka,aq (bytesOf l) _=none)∨ ∃v,∀κ:Ka,aq (bytesOf l) _=κ v h
     cases bytesOf l with
     |none=>exact .inl fun _=>rfl
     |some b=>cases x<;>first|exact .inl fun _=>rfl|exact .inr ⟨.str b,fun _=>rfl⟩
  have fs: ∀x:AV,(∀κ:Ka,aec x h κ=none)∨ ∃v,∀κ:Ka,aec x h κ=κ v h:=by
   intro x
   cases x<;>first|exact .inl fun _=>rfl|exact .inr ⟨_,fun _=>rfl⟩
  unfold tyK
  split
  ·rename_i si hs
   dsimp only
   split
   ·rename_i di hd
    rw [hd] at hr
    dsimp only at hr
    show (∀κ,(gX C (Nat.beq s d) si di (od ds x)).f C run σ T h κ=none)∨ ∃v,∀κ,(gX C (Nat.beq s d) si di (od ds x)).f C run σ T h κ=κ v h
    unfold gX
    split
    ·rename_i k1 k2;rw [k2] at hr;cases hr
    ·exact fs _
    ·rename_i k1 k2;rw [k2] at hr;cases hr
    ·cases ahn C _ with
     |true=>exact fb _
     |false=>exact n0
    ·rename_i k1 k2;rw [k2] at hr;cases hr
    ·exact n0
   ·exact n0
  ·exact n0
 case lookup t x i cok=>
  show (∀κ,(tyK C t fun ti=>match ti.kind with| .map kt et=>tyK C kt fun ki=>tyK C et fun ei=>.mk (o2 (lU ki ei cok) (od ds x) (od ds i))|_=>no).f C run σ T h κ=none)∨ ∃v,∀κ,(tyK C t fun ti=>match ti.kind with| .map kt et=>tyK C kt fun ki=>tyK C et fun ei=>.mk (o2 (lU ki ei cok) (od ds x) (od ds i))|_=>no).f C run σ T h κ=κ v h
  have lk: ∀(ki ei:TI) (x y:AV),(∀κ:Ka,lU ki ei cok x y h κ=none)∨ ∃v,∀κ:Ka,lU ki ei cok x y h κ=κ v h:=by
   intro ki ei x y
   unfold lU
   cases mapOf h x with
   |none=>exact .inl fun _=>rfl
   |some p=>
    show (∀κ:Ka,bq (jb ki y) (aq (jx y p.1) fun i=>pn κ h (aja ei p.2 cok i)) none=none)∨ ∃v,∀κ:Ka,bq (jb ki y) (aq (jx y p.1) fun i=>pn κ h (aja ei p.2 cok i)) none=κ v h
    cases jb ki y with
    |false=>exact .inl fun _=>rfl
    |true=>
     cases jx y p.1 with
     |none=>exact .inl fun _=>rfl
     |some i=>exact rv _
  unfold tyK
  split
  ·dsimp only
   split
   ·split
    ·split
     ·exact lk _ _ _ _
     ·exact n0
    ·exact n0
   ·exact n0
  ·exact n0
theorem R_gd (ops:List Oper) (g:Option (Nat×Bool)) {k:OK} (hk:zm (k.f C run σ T)):zm ((gdK ops ds g k).f C run σ T):=by
 intro h
 unfold gdK
 split
 ·exact hk h
 ·split
  ·split
   ·rename_i d _
    show (∀κ,aq (wY (ev C σ T (od ds (.tmp d))) _) (al8 k.f C run σ T h κ)=none)∨ ∃v,∀κ,aq (wY (ev C σ T (od ds (.tmp d))) _) (al8 k.f C run σ T h κ)=κ v h
    cases wY (ev C σ T (od ds (.tmp d))) _ with
    |none=>exact .inl fun _=>rfl
    |some b=>cases b with
     |true=>exact hk h
     |false=>exact .inr ⟨_,fun _=>rfl⟩
   ·exact .inl fun _=>rfl
  ·exact .inl fun _=>rfl
end
noncomputable section
def ltK (o:OK):OK:=.mk fun C run σ t h κ=>o.f C run σ t h fun v h'=>bq (AV.lt (ag h) v) (κ v h') none
def leK (o:OK):OK:=.mk fun C run σ t h κ=>o.f C run σ t h fun v h'=>bq (Nat.ble (ag h) (ag h')) (κ v h') none
def fS (ks:List Nat) (j:Nat) (d:DOp):OK:=bq d.ef (leK d.op) (bq (qI j ks) (ltK d.op) d.op)
def gL (ks:List Nat) (D:List DOp):Nat→List OK:=List.rec (motive:=fun _=>Nat→List OK) (fun _=>[]) (fun d _ ih j=>fS ks j d::ih (Nat.succ j)) D
def isE (l:List Nat):Bool:=List.rec (motive:=fun _=>Bool) true (fun _ _ _=>false) l
def sM (C:Cx) (ops:Array Oper):Bool:=
 let l:=ops.toList
 let b:=bJ l
 ((List.range l.length).all fun j=>mkB C (l.getD j default).op||(dQ C (l.getD j default).op&&isE (fX C l b j))||(!dQ C (l.getD j default).op&&(adG C (l.getD j default).op||(ajW C (l.getD j default).op&&isE (fX C l b j)))))&&
 (bp C ops).all fun p=>Nat.blt p.1 l.length&&Nat.blt p.2 l.length&&(adG C (l.getD p.1 default).op&& !mkB C (l.getD p.1 default).op&& !dQ C (l.getD p.1 default).op)
end
structure akY (C:Cx) (run:Run) (T:Tms) (D:List DOp) (pl:List (Nat×Nat)):Prop where
 nat: ∀d∈D,∀σ h,aQ (d.op.f C run σ T h)
 mkr: ∀d∈D,d.nw=true→d.ef=false∧ ∀σ,dC (d.op.f C run σ T)
 ef: ∀d∈D,d.nw=false→d.ef=true→d.hide=[]
 rd: ∀d∈D,d.nw=false→d.ef=false→(∀σ,bd (d.op.f C run σ T))∨(d.hide=[]∧ ∀σ,zm (d.op.f C run σ T))
 pl: ∀p∈pl,∃d,D[p.1]? =some d∧p.2<D.length∧d.nw=false∧d.ef=false∧ ∀σ,bd (d.op.f C run σ T)
theorem mA {b:Nat}: ∀{ks:List Nat},qI b ks=true↔b∈ks
 |[]=>by constructor<;>intro h<;>cases h
 |a::r=>by
  have ih:=@mA b r
  show bq (Nat.beq a b) true (qI b r)=true↔_
  rw [kB]
  by_cases e:a=b
  ·rw [decide_eq_true e];simp [e,au]
  ·rw [decide_eq_false e,aw,ih];simp [Ne.symm e]
theorem adD {l:List Nat} (h:isE l=true):l=[]:=by
 cases l with
 |nil=>rfl
 |cons a r=>cases h
theorem wh {C:Cx} {run:Run} {T:Tms}: ∀(l:List DOp) {tr tr':List Tr} {σ σ':List AV} {h h':AH},eB C run T l tr σ h=some (tr',σ',h')→ ∃m,tr'=tr++m∧m.length=l.length
 |[],tr,tr',σ,σ',h,h',e=>by cases e;exact ⟨[],by simp,rfl⟩
 |d::l,tr,tr',σ,σ',h,h',e=>by
  obtain ⟨r,e1,e2⟩:=ab (show aq (dH C run T d tr σ h) (fun r=>eB C run T l (aF tr [r]) (r.v::σ) r.h')=some (tr',σ',h') from e)
  obtain ⟨m,rfl,hm⟩:=wh l e2
  exact ⟨r::m,by rw [aP];simp,by simp [hm]⟩
section
variable {C:Cx} {run:Run} {T:Tms}
noncomputable def rh (C:Cx) (run:Run) (fl:List (Nat×Nat)) (T:Tms) (D:List DOp) (pl:List (Nat×Nat)) (x:List Tr×List AV×AH):Option Rs:=bq (fM (mT C run T D x.1) pl) (some (.st (bU x.2.1 T fl) x.2.2)) none
theorem ub {fl pl:List (Nat×Nat)} {D:List DOp} (H:akY C run T D pl): ∀(l done:List DOp) (tr:List Tr) (σ:List AV) (h:AH),D=done++l→tr.length=done.length→
 (∀(i:Nat) (d:DOp) (r:Tr),D[i]? =some d→tr[i]? =some r→i∈pl.map (·.1)→AV.lt (ag r.h) r.v=true∧ ∀h2,vhO (d.op.f C run r.σ T h2 kVH)=some (r.v,h2))→
 aq (eB C run T l tr σ h) (rh C run fl T D pl)=gF C run fl T (gL (pl.map (·.1)) l tr.length) σ h:=by
 intro l
 induction l with
 |nil=>
  intro done tr σ h hD hl hi
  show rh C run fl T D pl (tr,σ,h)=some (.st (bU σ T fl) h)
  unfold rh
  have:fM (mT C run T D tr) pl=true:=tQ.2 fun p hp=>by
   obtain ⟨d,h1,h2,_,_,_⟩:=H.pl p hp
   have hDl:D.length=tr.length:=by rw [hD,hl];simp
   have l1:p.1<tr.length:=by rw [←hDl];exact (List.getElem?_eq_some_iff.1 h1).1
   have a2:tr[p.1]? =some tr[p.1]:=List.getElem?_eq_getElem l1
   have a3:tr[p.2]? =some (tr[p.2]'(by omega)):=List.getElem?_eq_getElem (by omega)
   obtain ⟨c1,c2⟩:=hi _ _ _ h1 a2 (List.mem_map.2 ⟨p,hp,rfl⟩)
   unfold mT
   rw [bw,bw,bw,h1,a2,a3]
   show and (AV.lt (ag (tr[p.1]).h) (tr[p.1]).v) (isV (tr[p.1]).v (vhO (d.op.f C run (tr[p.1]).σ T _ kVH)))=true
   rw [c1,c2]
   show AV.same _ _=true
   exact gm _
  rw [this];rfl
 |cons d l ih=>
  intro done tr σ h hD hl hi
  have hd:d∈D:=by rw [hD];simp
  have hDj:D[tr.length]? =some d:=by rw [hD,hl];simp
  have hnj: ∀p∈pl,p.1=tr.length→d.nw=false∧d.ef=false∧ ∀σ,bd (d.op.f C run σ T):=fun p hp e=>by
   obtain ⟨d',h1,_,h3⟩:=H.pl p hp
   rw [e,hDj] at h1
   cases h1
   exact h3
  have go: ∀(v:AV) (h':AH),dH C run T d tr σ h=some ⟨σ,h,v,h'⟩→(tr.length∈pl.map (·.1)→AV.lt (ag h) v=true∧ ∀h2,vhO (d.op.f C run σ T h2 kVH)=some (v,h2))→
   aq (eB C run T (d::l) tr σ h) (rh C run fl T D pl)=gF C run fl T (gL (pl.map (·.1)) l (tr.length+1)) (v::σ) h':=fun v h' e hv=>by
   show aq (aq (dH C run T d tr σ h) fun r=>eB C run T l (aF tr [r]) (r.v::σ) r.h') _=_
   rw [e,aS,aP]
   have:=ih (done++[d]) (tr++[⟨σ,h,v,h'⟩]) (v::σ) h' (by rw [hD];simp) (by simp [hl]) (fun i q r h1 h2 h3=>by
    rcases Nat.lt_trichotomy i tr.length with hlt|rfl|hgt
    ·rw [List.getElem?_append_left hlt] at h2
     exact hi i q r h1 h2 h3
    ·rw [hDj] at h1
     rw [List.getElem?_append_right (Nat.le_refl _),Nat.sub_self] at h2
     cases h1;cases h2
     exact hv h3
    ·rw [List.getElem?_eq_none (by simp;omega)] at h2;cases h2)
   rw [List.length_append] at this
   exact this
  have gn:dH C run T d tr σ h=none→aq (eB C run T (d::l) tr σ h) (rh C run fl T D pl)=none:=fun e=>by
   show aq (aq (dH C run T d tr σ h) fun r=>eB C run T l (aF tr [r]) (r.v::σ) r.h') _=_
   rw [e];rfl
  have rhs:gF C run fl T (gL (pl.map (·.1)) (d::l) tr.length) σ h=(fS (pl.map (·.1)) tr.length d).f C run σ T h fun v=>gF C run fl T (gL (pl.map (·.1)) l (tr.length+1)) (v::σ):=by
   show gF C run fl T (fS (pl.map (·.1)) tr.length d::gL (pl.map (·.1)) l (tr.length+1)) σ h=_
   generalize fS (pl.map (·.1)) tr.length d=w
   cases w
   rfl
  rw [rhs]
  have hidE:dF tr []=[]:=rfl
  cases hw:d.nw with
  |true=>
   obtain ⟨he,hm⟩:=H.mkr d hd hw
   have hin:qI tr.length (pl.map (·.1))=false:=by
    rw [Bool.eq_false_iff]
    intro c
    obtain ⟨p,hp,e⟩:=List.mem_map.1 (mA.1 c)
    have:=(hnj p hp e).1
    rw [hw] at this;cases this
   have hni:tr.length∈pl.map (·.1)→False:=fun c=>by rw [mA.2 c] at hin;cases hin
   have hwr:fS (pl.map (·.1)) tr.length d=d.op:=by unfold fS;rw [he,hin];rfl
   rw [hwr]
   have hsd:dH C run T d tr σ h=aq (vhO (d.op.f C run σ T (b9 (ag h) none) kVH)) fun x=>bq (and (Nat.ble (ag h) (ag x.2)) (Nat.ble (ag x.2) (Nat.succ (ag h)))) (some ⟨σ,h,x.1,aF h (cG (ag h) x.2)⟩) none:=by
    unfold dH;rw [hw];rfl
   have lb:ag (b9 (α:=Option Blk) (ag h) none)=ag h:=by rw [iB,ah,List.length_replicate]
   rcases hm σ with hm|⟨v,hm⟩|⟨g,B,hm⟩
   ·rw [hm,gn]
    rw [hsd,hm];rfl
   ·rw [hm,go v h _ (fun c=>(hni c).elim)]
    rw [hsd,hm]
    show bq (and (Nat.ble (ag h) (ag (b9 (ag h) none))) (Nat.ble (ag (b9 (ag h) none)) (Nat.succ (ag h)))) (some (⟨σ,h,v,aF h (cG (ag h) (b9 (ag h) none))⟩:Tr)) none=_
    rw [lb,bR,bR,decide_eq_true (Nat.le_refl _),decide_eq_true (Nat.le_succ _),bc,aP,List.drop_eq_nil_of_le (by rw [←ah,lb];exact Nat.le_refl _),List.append_nil]
    rfl
   ·rw [hm,go (g (ag h)) (aF h [B]) _ (fun c=>(hni c).elim)]
    rw [hsd,hm]
    show bq (and (Nat.ble (ag h) (ag (aF (b9 (ag h) none) [B]))) (Nat.ble (ag (aF (b9 (ag h) none) [B])) (Nat.succ (ag h)))) (some (⟨σ,h,g (ag (b9 (α:=Option Blk) (ag h) none)),aF h (cG (ag h) (aF (b9 (ag h) none) [B]))⟩:Tr)) none=_
    have l2:ag (aF (b9 (ag h) none) [B])=ag h+1:=by rw [aP,ah,List.length_append,←ah,lb];rfl
    have l3:cG (ag h) (aF (b9 (α:=Option Blk) (ag h) none) [B])=[B]:=by
     rw [bc,aP,List.drop_append_of_le_length (by rw [←ah,lb];exact Nat.le_refl _),List.drop_eq_nil_of_le (by rw [←ah,lb];exact Nat.le_refl _),List.nil_append]
    rw [l2,lb,bR,bR,decide_eq_true (Nat.le_succ _),decide_eq_true (Nat.le_refl _),l3]
    rfl
  |false=>
   cases he:d.ef with
   |true=>
    have hh:=H.ef d hd hw he
    have hin:tr.length∈pl.map (·.1)→False:=fun c=>by
     obtain ⟨p,hp,e⟩:=List.mem_map.1 c
     have:=(hnj p hp e).2.1
     rw [he] at this;cases this
    have hwr:fS (pl.map (·.1)) tr.length d=leK d.op:=by unfold fS;rw [he];rfl
    have hsd:dH C run T d tr σ h=aq (vhO (d.op.f C run σ T h kVH)) fun x=>bq (Nat.ble (ag h) (ag x.2)) (some ⟨σ,h,x.1,x.2⟩) none:=by
     unfold dH;rw [hw,hh,he,aw];rfl
    rw [hwr]
    show _=d.op.f C run σ T h fun v h'=>bq (Nat.ble (ag h) (ag h')) (gF C run fl T (gL (pl.map (·.1)) l (tr.length+1)) (v::σ) h') none
    rcases H.nat d hd σ h with hn|⟨v,h',hn⟩
    ·rw [hn,gn]
     rw [hsd,hn];rfl
    ·rw [hn]
     have hsd:dH C run T d tr σ h=bq (Nat.ble (ag h) (ag h')) (some ⟨σ,h,v,h'⟩) none:=by rw [hsd,hn];rfl
     cases hb:Nat.ble (ag h) (ag h') with
     |true=>rw [au,go v h' (by rw [hsd,hb];rfl) (fun c=>(hin c).elim)]
     |false=>rw [aw,gn (by rw [hsd,hb];rfl)]
   |false=>
    have hsd: ∀v,(∃F:AH→Ka→Option Rs,F=d.op.f C run σ T)→vhO (d.op.f C run σ T (dp (dF tr d.hide) h) kVH)=some v→dH C run T d tr σ h=some ⟨σ,h,v.1,h⟩:=fun v _ e=>by
     unfold dH;rw [hw,aw]
     show aq (vhO (d.op.f C run σ T (dp (dF tr d.hide) h) kVH)) _=_
     rw [e,he];rfl
    have hsn:vhO (d.op.f C run σ T (dp (dF tr d.hide) h) kVH)=none→dH C run T d tr σ h=none:=fun e=>by
     unfold dH;rw [hw,aw]
     show aq (vhO (d.op.f C run σ T (dp (dF tr d.hide) h) kVH)) _=_
     rw [e];rfl
    have main: ∀v:AV,(∀κ,d.op.f C run σ T h κ=κ v h)→dH C run T d tr σ h=some ⟨σ,h,v,h⟩→(tr.length∈pl.map (·.1)→ ∀h2,vhO (d.op.f C run σ T h2 kVH)=some (v,h2))→
     aq (eB C run T (d::l) tr σ h) (rh C run fl T D pl)=(fS (pl.map (·.1)) tr.length d).f C run σ T h fun v=>gF C run fl T (gL (pl.map (·.1)) l (tr.length+1)) (v::σ):=fun v hv hs hp=>by
     cases hin:qI tr.length (pl.map (·.1)) with
     |false=>
      have hni:tr.length∈pl.map (·.1)→False:=fun c=>by rw [mA.2 c] at hin;cases hin
      have hwr:fS (pl.map (·.1)) tr.length d=d.op:=by unfold fS;rw [he,hin];rfl
      rw [hwr,hv,go v h hs (fun c=>(hni c).elim)]
     |true=>
      have hwr:fS (pl.map (·.1)) tr.length d=ltK d.op:=by unfold fS;rw [he,hin];rfl
      rw [hwr]
      show _=d.op.f C run σ T h fun v h'=>bq (AV.lt (ag h) v) (gF C run fl T (gL (pl.map (·.1)) l (tr.length+1)) (v::σ) h') none
      rw [hv]
      cases hlt:AV.lt (ag h) v with
      |true=>rw [au,go v h hs (fun c=>⟨hlt,hp c⟩)]
      |false=>
       rw [aw]
       show aq (aq (dH C run T d tr σ h) fun r=>eB C run T l (aF tr [r]) (r.v::σ) r.h') _=none
       rw [hs,aS,aP]
       cases ht:eB C run T l (tr++[⟨σ,h,v,h⟩]) (v::σ) h with
       |none=>rfl
       |some x=>
        obtain ⟨tr',σ',h'⟩:=x
        obtain ⟨m,rfl,hm⟩:=wh l ht
        obtain ⟨p,hp1,hp2⟩:=List.mem_map.1 (mA.1 hin)
        show rh C run fl T D pl (_,σ',h')=none
        unfold rh
        have:fM (mT C run T D (tr++[⟨σ,h,v,h⟩]++m)) pl=false:=by
         rw [Bool.eq_false_iff]
         intro c
         have:=tQ.1 c p hp1
         unfold mT at this
         have a1:(tr++[⟨σ,h,v,h⟩]++m)[p.1]? =some ⟨σ,h,v,h⟩:=by
          have hp2:p.1=tr.length:=hp2
          rw [hp2,List.append_assoc,List.getElem?_append_right (Nat.le_refl _),Nat.sub_self];rfl
         have a2:D[p.1]? =some d:=by
          have hp2:p.1=tr.length:=hp2
          rw [hp2];exact hDj
         rw [bw,bw,bw,a1,a2] at this
         split at this
         ·rename_i o r e h1 h2 h3
          cases h2
          rw [show AV.lt (ag h) v=false from hlt] at this
          cases this
         ·cases this
        rw [this];rfl
    rcases H.rd d hd hw he with hp|⟨hh,hr⟩
    ·rcases hp σ with hp|⟨v,hp⟩
     ·rw [gn (hsn (by rw [hp];rfl))]
      have hz: ∀o:OK,(∀κ,o.f C run σ T h κ=none)→ ∀κ,(bq (qI tr.length (pl.map (·.1))) (ltK o) o).f C run σ T h κ=none:=fun o ho κ=>by
       cases qI tr.length (pl.map (·.1)) with
       |true=>exact ho _
       |false=>exact ho _
      unfold fS
      rw [he,aw]
      exact (hz d.op (hp h) _).symm
     ·exact main v (hp h) (hsd (v,_) ⟨_,rfl⟩ (by rw [hp];rfl)) (fun _ h2=>by rw [hp];rfl)
    ·have hb:dp (dF tr d.hide) h=h:=by rw [hh];rfl
     rcases hr σ h with hp|⟨v,hp⟩
     ·rw [gn (hsn (by rw [hb,hp];rfl))]
      have hz: ∀o:OK,(∀κ,o.f C run σ T h κ=none)→ ∀κ,(bq (qI tr.length (pl.map (·.1))) (ltK o) o).f C run σ T h κ=none:=fun o ho κ=>by
       cases qI tr.length (pl.map (·.1)) with
       |true=>exact ho _
       |false=>exact ho _
      unfold fS
      rw [he,aw]
      exact (hz d.op hp _).symm
     ·refine main v hp (hsd (v,_) ⟨_,rfl⟩ (by rw [hb,hp];rfl)) (fun c h2=>?_)
      obtain ⟨p,hp1,hp2⟩:=List.mem_map.1 c
      rcases (hnj p hp1 hp2).2.2 σ with q|⟨v',q⟩
      ·have:=hp kVH
       rw [q] at this;cases this
      ·have e1:=hp kVH
       rw [q] at e1
       cases e1
       rw [q];rfl
theorem afo {C:Cx} {d:DOp} (hd:rn C d.op) (ks:List Nat) (j:Nat):rn C (fS ks j d):=by
 intro run σ T h
 unfold fS
 have a:aQ ((leK d.op).f C run σ T h):=by
  rcases hd run σ T h with hn|⟨v,h',hn⟩
  ·exact .inl fun κ=>hn _
  ·have e: ∀κ:Ka,(leK d.op).f C run σ T h κ=bq (Nat.ble (ag h) (ag h')) (κ v h') none:=fun κ=>hn _
   cases hb:Nat.ble (ag h) (ag h') with
   |true=>exact .inr ⟨v,h',fun κ=>by rw [e,hb];rfl⟩
   |false=>exact .inl fun κ=>by rw [e,hb];rfl
 have b:aQ ((ltK d.op).f C run σ T h):=by
  rcases hd run σ T h with hn|⟨v,h',hn⟩
  ·exact .inl fun κ=>hn _
  ·have e: ∀κ:Ka,(ltK d.op).f C run σ T h κ=bq (AV.lt (ag h) v) (κ v h') none:=fun κ=>hn _
   cases hb:AV.lt (ag h) v with
   |true=>exact .inr ⟨v,h',fun κ=>by rw [e,hb];rfl⟩
   |false=>exact .inl fun κ=>by rw [e,hb];rfl
 cases d.ef with
 |true=>exact a
 |false=>
  cases qI j ks with
  |true=>exact b
  |false=>exact hd run σ T h
theorem nj {C:Cx} (ks:List Nat): ∀(D:List DOp) (j:Nat),(∀d∈D,rn C d.op)→ ∀o∈gL ks D j,rn C o
 |[],_,_,o,ho=>by cases ho
 |d::D,j,hd,o,ho=>by
  have ho:o∈fS ks j d::gL ks D (Nat.succ j):=ho
  rcases List.mem_cons.1 ho with rfl|ho
  ·exact afo (hd d (List.mem_cons_self ..)) ks j
  ·exact nj ks D _ (fun d h=>hd d (List.mem_cons_of_mem _ h)) o ho
theorem iE {C:Cx} {ops:Array Oper} (hb:sM C ops=true) (run:Run) (T:Tms):akY C run T (bC C ops.toList (bJ ops.toList) 0 (aU C ops.toList [] ops.toList)) (bp C ops):=by
 unfold sM at hb
 simp only [Bool.and_eq_true] at hb
 obtain ⟨h1,h2⟩:=hb
 have get: ∀{j:Nat} {d:DOp},(bC C ops.toList (bJ ops.toList) 0 (aU C ops.toList [] ops.toList))[j]? =some d→ ∃o ds,ops.toList[j]? =some o∧d=⟨jo C ops.toList ds o,fX C ops.toList (bJ ops.toList) j,mkB C o.op,dQ C o.op⟩∧ops.toList.getD j default=o:=by
  intro j d hd
  rw [kh,jU] at hd
  cases ho:ops.toList[j]? with
  |none=>rw [ho] at hd;simp at hd
  |some o=>
   rw [ho] at hd
   simp only [Option.map_some,Option.some.injEq,Nat.zero_add] at hd
   have e:ops.toList.getD j default=o:=by rw [List.getD_eq_getElem?_getD,ho];rfl
   rw [e] at hd
   exact ⟨o,_,rfl,hd.symm,e⟩
 have mem: ∀{d:DOp},d∈bC C ops.toList (bJ ops.toList) 0 (aU C ops.toList [] ops.toList)→ ∃j o ds,ops.toList[j]? =some o∧d=⟨jo C ops.toList ds o,fX C ops.toList (bJ ops.toList) j,mkB C o.op,dQ C o.op⟩∧ops.toList.getD j default=o:=by
  intro d hd
  obtain ⟨j,hj⟩:=List.getElem?_of_mem hd
  exact ⟨j,get hj⟩
 have at1: ∀{j:Nat} {o:Oper},ops.toList[j]? =some o→ops.toList.getD j default=o→(mkB C o.op||(dQ C o.op&&isE (fX C ops.toList (bJ ops.toList) j))||(!dQ C o.op&&(adG C o.op||(ajW C o.op&&isE (fX C ops.toList (bJ ops.toList) j)))))=true:=by
  intro j o ho e
  have:=List.all_eq_true.1 h1 j (List.mem_range.2 (List.getElem?_eq_some_iff.1 ho).1)
  rw [e] at this
  exact this
 constructor
 ·intro d hd σ h
  obtain ⟨j,o,ds,_,rfl,_⟩:=mem hd
  exact N_gd _ _ (N_op _)
 ·intro d hd hw
  obtain ⟨j,o,ds,_,rfl,_⟩:=mem hd
  exact ⟨acr hw,fun σ=>M_gd _ _ (M_op hw)⟩
 ·intro d hd hw he
  obtain ⟨j,o,ds,ho,rfl,e⟩:=mem hd
  have:=at1 ho e
  rw [show mkB C o.op=false from hw,show dQ C o.op=true from he] at this
  simp at this
  exact adD this
 ·intro d hd hw he
  obtain ⟨j,o,ds,ho,rfl,e⟩:=mem hd
  have:=at1 ho e
  rw [show mkB C o.op=false from hw,show dQ C o.op=false from he] at this
  simp at this
  rcases this with hp|⟨hr,hh⟩
  ·exact .inl fun σ=>P_gd _ _ (P_op hp)
  ·exact .inr ⟨adD hh,fun σ=>R_gd _ _ (R_op hr)⟩
 ·intro p hp
  have:=List.all_eq_true.1 h2 p hp
  simp only [Bool.and_eq_true,Bool.not_eq_true'] at this
  obtain ⟨⟨l1,l2⟩,⟨q1,q2⟩,q3⟩:=this
  rw [uT,decide_eq_true_iff] at l1 l2
  have hlen:(bC C ops.toList (bJ ops.toList) 0 (aU C ops.toList [] ops.toList)).length=ops.toList.length:=by
   apply Nat.le_antisymm
   ·apply Nat.le_of_not_lt
    intro c
    have hd:=List.getElem?_eq_getElem c
    obtain ⟨o,ds,ho,_⟩:=get hd
    rw [List.getElem?_eq_none (Nat.le_refl _)] at ho;cases ho
   ·apply Nat.le_of_not_lt
    intro c
    have:=kh (C:=C) ops.toList (bJ ops.toList) (aU C ops.toList [] ops.toList) 0 (bC C ops.toList (bJ ops.toList) 0 (aU C ops.toList [] ops.toList)).length
    rw [List.getElem?_eq_none (Nat.le_refl _),jU,List.getElem?_eq_getElem c] at this
    simp at this
  have hd:=List.getElem?_eq_getElem (show p.1<(bC C ops.toList (bJ ops.toList) 0 (aU C ops.toList [] ops.toList)).length by rw [hlen];exact l1)
  obtain ⟨o,ds,ho,hde,e⟩:=get hd
  rw [e] at q1 q2 q3
  rw [hde] at hd
  exact ⟨_,hd,by rw [hlen];exact l2,q2,q3,fun σ=>P_gd _ _ (P_op q1)⟩
theorem bV {lp:Lp} {k:K} {ops:Array Oper} {ps:List Nat} (hb:sM C ops=true) (hk:k= .draw (bC C ops.toList (bJ ops.toList) 0 (aU C ops.toList [] ops.toList)) (bp C ops) (flL ps ops.toList)) (s:St) (κn:Kt) (κx:Ex→Kt):
 kc C run lp k s κn κx=kc C run lp (.reg (gL ((bp C ops).map (·.1)) (bC C ops.toList (bJ ops.toList) 0 (aU C ops.toList [] ops.toList)) 0) (flL ps ops.toList)) s κn κx:=by
 have H:=iE hb run s.t
 subst hk
 have hn:dY C (.draw (bC C ops.toList (bJ ops.toList) 0 (aU C ops.toList [] ops.toList)) (bp C ops) (flL ps ops.toList)):=by unfold dY;trivial
 have hr:dY C (.reg (gL ((bp C ops).map (·.1)) (bC C ops.toList (bJ ops.toList) 0 (aU C ops.toList [] ops.toList)) 0) (flL ps ops.toList)):=by
  unfold dY
  exact nj _ _ _ fun d hd=>fun run σ T h=>(iE hb run T).nat d hd σ h
 rw [lz _ hn,lz _ hr]
 have:=ub (fl:=flL ps ops.toList) H (bC C ops.toList (bJ ops.toList) 0 (aU C ops.toList [] ops.toList)) [] [] [] s.h rfl rfl (fun i d r _ h2=>by simp at h2)
 show kcR κn κx (eZ (jC C run (flL ps ops.toList) s.t _ (bp C ops) s.h))=kcR κn κx (eZ (gF C run (flL ps ops.toList) s.t (gL _ _ 0) [] s.h))
 exact congrArg (fun x=>kcR κn κx (eZ x)) this
end
noncomputable section
def kc2 (F G:Kt→Option Rs) (κn:Kt):Option Rs:=F fun s1=>G fun s2=>bq (aeb s1 s2) (κn s1) none
end
theorem abr (s:St):aeb s s=true:=by
 show and (iR s.t s.t) (fW s.h s.h)=true
 rw [oz,kE];rfl
section
variable {C:Cx} {run:Run} {lp:Lp}
theorem amu (l:List OK) (fl:List (Nat×Nat)) (hl: ∀o∈l,rn C o) (s:St) (κn:Kt) (κx:Ex→Kt):kc C run lp (.reg l fl) s κn κx=kcR κn κx (eZ (gF C run fl s.t l [] s.h)):=by
 have hr:dY C (.reg l fl):=by unfold dY;exact hl
 rw [lz _ hr];rfl
theorem vC {k:K} {ops1 ops2:Array Oper} {ps:List Nat} (hb1:sM C ops1=true) (hb2:sM C ops2=true)
 (hk:k= .draw2 (bC C ops1.toList (bJ ops1.toList) 0 (aU C ops1.toList [] ops1.toList)) (bp C ops1) (flL ps ops1.toList) (bC C ops2.toList (bJ ops2.toList) 0 (aU C ops2.toList [] ops2.toList)) (bp C ops2) (flL ps ops2.toList)) (s:St) (κn:Kt) (κx:Ex→Kt):
 kc C run lp k s κn κx=kc2 (fun κ=>kc C run lp (.reg (gL ((bp C ops1).map (·.1)) (bC C ops1.toList (bJ ops1.toList) 0 (aU C ops1.toList [] ops1.toList)) 0) (flL ps ops1.toList)) s κ κx)
  (fun κ=>kc C run lp (.reg (gL ((bp C ops2).map (·.1)) (bC C ops2.toList (bJ ops2.toList) 0 (aU C ops2.toList [] ops2.toList)) 0) (flL ps ops2.toList)) s κ κx) κn:=by
 have n1:=nj (C:=C) ((bp C ops1).map (·.1)) (bC C ops1.toList (bJ ops1.toList) 0 (aU C ops1.toList [] ops1.toList)) 0 fun d hd=>fun run σ T h=>(iE hb1 run T).nat d hd σ h
 have n2:=nj (C:=C) ((bp C ops2).map (·.1)) (bC C ops2.toList (bJ ops2.toList) 0 (aU C ops2.toList [] ops2.toList)) 0 fun d hd=>fun run σ T h=>(iE hb2 run T).nat d hd σ h
 have e1:jC C run (flL ps ops1.toList) s.t _ (bp C ops1) s.h=gF C run (flL ps ops1.toList) s.t (gL ((bp C ops1).map (·.1)) (bC C ops1.toList (bJ ops1.toList) 0 (aU C ops1.toList [] ops1.toList)) 0) [] s.h:=
  ub (fl:=flL ps ops1.toList) (iE hb1 run s.t) (bC C ops1.toList (bJ ops1.toList) 0 (aU C ops1.toList [] ops1.toList)) [] [] [] s.h rfl rfl (fun i d r _ h2=>by simp at h2)
 have e2:jC C run (flL ps ops2.toList) s.t _ (bp C ops2) s.h=gF C run (flL ps ops2.toList) s.t (gL ((bp C ops2).map (·.1)) (bC C ops2.toList (bJ ops2.toList) 0 (aU C ops2.toList [] ops2.toList)) 0) [] s.h:=
  ub (fl:=flL ps ops2.toList) (iE hb2 run s.t) (bC C ops2.toList (bJ ops2.toList) 0 (aU C ops2.toList [] ops2.toList)) [] [] [] s.h rfl rfl (fun i d r _ h2=>by simp at h2)
 subst hk
 have hn:dY C (.draw2 (bC C ops1.toList (bJ ops1.toList) 0 (aU C ops1.toList [] ops1.toList)) (bp C ops1) (flL ps ops1.toList) (bC C ops2.toList (bJ ops2.toList) 0 (aU C ops2.toList [] ops2.toList)) (bp C ops2) (flL ps ops2.toList)):=by unfold dY;trivial
 rw [lz _ hn]
 unfold kc2
 simp only [amu _ _ n1,amu _ _ n2]
 show kcR κn κx (eZ (aq (jC C run (flL ps ops1.toList) s.t _ (bp C ops1) s.h) fun r=>bq (aiI r (jC C run (flL ps ops2.toList) s.t _ (bp C ops2) s.h)) (some r) none))=_
 rw [e1,e2]
 generalize gF C run (flL ps ops1.toList) s.t _ [] s.h=A1
 generalize gF C run (flL ps ops2.toList) s.t _ [] s.h=A2
 rcases A1 with _|(⟨t,h⟩|⟨v,h⟩)
 ·rfl
 ·rcases A2 with _|(⟨t',h'⟩|⟨v',h'⟩)
  ·rfl
  ·show kcR κn κx (eZ (bq (and (iR t t') (fW h h')) (some (.st t h)) none))=bq (and (iR t t') (fW h h')) (κn ⟨t,h⟩) none
   cases and (iR t t') (fW h h')<;>rfl
  ·rfl
 ·rfl
end
noncomputable section
def adM (C:Cx) (run:Run) (fl:List (Nat×Nat)) (t:Tms) (D:List DOp) (pl:List (Nat×Nat)):List DOp→List Tr→List AV→AH→Option Rs
 |[],tr,σ,h=>bq (fM (mT C run t D tr) pl) (some (.st (bU σ t fl) h)) none
 |o::l,tr,σ,h=>aq (dH C run t o tr σ h) fun r=>adM C run fl t D pl l (aF tr [r]) (r.v::σ) r.h'
def sRd (σ:List AV) (h:AH) (q:Option Rs) (k:Tr→Option Rs):Option Rs:=aq (aq (vhO q) fun x=>some ⟨σ,h,x.1,h⟩) k
def sEf (σ:List AV) (h:AH) (q:Option Rs) (k:Tr→Option Rs):Option Rs:=aq (aq (vhO q) fun x=>bq (Nat.ble (ag h) (ag x.2)) (some ⟨σ,h,x.1,x.2⟩) none) k
def sMk (σ:List AV) (h:AH) (q:AH→Option Rs) (k:Tr→Option Rs):Option Rs:=aq (aq (vhO (q (b9 (ag h) none))) fun x=>bq (and (Nat.ble (ag h) (ag x.2)) (Nat.ble (ag x.2) (Nat.succ (ag h)))) (some ⟨σ,h,x.1,aF h (cG (ag h) x.2)⟩) none) k
def cj (r:Tr) (q:Option Rs):Bool:=and (AV.lt (ag r.h) r.v) (isV r.v (vhO q))
end
section
variable {C:Cx} {run:Run} {lp:Lp}
theorem yN (fl:List (Nat×Nat)) (t:Tms) (D:List DOp) (pl:List (Nat×Nat)): ∀(l:List DOp) (tr:List Tr) (σ:List AV) (h:AH),
 adM C run fl t D pl l tr σ h=aq (eB C run t l tr σ h) fun x=>bq (fM (mT C run t D x.1) pl) (some (.st (bU x.2.1 t fl) x.2.2)) none
 |[],tr,σ,h=>rfl
 |o::l,tr,σ,h=>by
  show aq (dH C run t o tr σ h) (fun r=>adM C run fl t D pl l (aF tr [r]) (r.v::σ) r.h')=aq (aq (dH C run t o tr σ h) fun r=>eB C run t l (aF tr [r]) (r.v::σ) r.h') _
  cases dH C run t o tr σ h with
  |none=>rfl
  |some r=>exact yN fl t D pl l (aF tr [r]) (r.v::σ) r.h'
theorem gy {k:K} {D:List DOp} {pl fl:List (Nat×Nat)} (hk:k= .draw D pl fl) (s:St) (κn:Kt) (κx:Ex→Kt):
 kc C run lp k s κn κx=kcR κn κx (eZ (adM C run fl s.t D pl D [] [] s.h)):=by
 subst hk
 have hn:dY C (.draw D pl fl):=by unfold dY;trivial
 rw [lz _ hn,yN]
 rfl
theorem fy (σ:List AV) (h h':AH) (v:AV) (k:Tr→Option Rs):sRd σ h (some (.vh v h')) k=k ⟨σ,h,v,h⟩:=(rfl)
theorem gQ (σ:List AV) (h h':AH) (v:AV) (k:Tr→Option Rs):sEf σ h (some (.vh v h')) k=bq (decide (h.length≤h'.length)) (k ⟨σ,h,v,h'⟩) none:=by
 rw [←ah h,←ah h',←bR]
 show aq (bq (Nat.ble (ag h) (ag h')) (some _) none) k=_
 cases Nat.ble (ag h) (ag h')<;>rfl
theorem fB (v:AV) (h:AH):kVH v h=some (.vh v h):=(rfl)
theorem cU (σ:List AV) (h h' h2:AH) (v:AV):cj ⟨σ,h,v,h'⟩ (some (.vh v h2))=AV.lt (ag h) v:=by
 show and (AV.lt (ag h) v) (AV.same v v)=_
 rw [gm];simp
theorem iP (f:OpA):OK.f (.mk f)=f:=(rfl)
theorem mL (σ:List AV) (t:Tms) (i:Nat):ev C σ t (.st i)=nS σ i:=(rfl)
theorem lT (σ:List AV) (t:Tms) (i:Nat):ev C σ t (.tr i)=aW t i:=(rfl)
theorem jM (a:AV) (σ:List AV):nS (a::σ) 0=a:=(rfl)
theorem jK (a:AV) (σ:List AV) (i:Nat):nS (a::σ) (i+1)=nS σ i:=(rfl)
end
noncomputable section
def aD (C:Cx) (f:Nat):Code:=Option.rec (motive:=fun _=>Code) .skip (fun fn=>match fn.body with|some c=>c|none=>.skip) (C.fn f)
def ac0:Code→Code
 | .scope b=>ac0 b
 |c=>c
def cSub (c:Code) (i:Nat):Code:=
 match ac0 c with
 | .seq a b=>bq (Nat.beq i 0) a b
 | .cond _ a b=>bq (Nat.beq i 0) a b
 | .block _ b=>b
 | .loop b=>b
 |_=>.skip
def cAt (p:List Nat):Code→Code:=List.rec (motive:=fun _=>Code→Code) (fun c=>c) (fun i _ ih c=>ih (cSub c i)) p
def opsOf (c:Code):Array Oper:=
 match ac0 c with
 | .region _ ops _=>ops
 |_=> #[]
end
end Go.Proofs.YteapfopaiocpeaaGreatDoor
