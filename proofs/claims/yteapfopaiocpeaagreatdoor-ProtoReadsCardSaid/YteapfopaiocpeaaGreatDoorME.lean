/- Externs, calls told ahead, arguments that came in, rules of symbolic runs, the frame. -/
import Derived.Test.YteapfopaiocpeaaGreatDoorMD
import Derived.Laws.Externs
import Derived.Lib.Bytealg
import Derived.Conc.AtomicLaws2
import Derived.Test.YteapfopaiocpeaaGreatDoorMB
import Derived.OpenShut
import Derived.ChangeArms
import Derived.ChangeBears
import Derived.RowKit
import Derived.HandedShaped
import Derived.Handed
import Derived.Below
import Derived.Carry
import Derived.FnData
import Derived.WideShapes
import Derived.KernelRfl
namespace Go.Proofs.YteapfopaiocpeaaGreatDoor
set_option linter.unusedSimpArgs false
set_option linter.unusedVariables false
set_option linter.unnecessarySimpa false
def nM (P:Program) (C:Cx) (f:Nat) (g:List AV→AH→Option (AV×AH)):Prop:=
 ∀args h v h',g args h=some (v,h')→ ∀ok w ρ us,Inv C ok w ρ h→VL ok w args ρ us→ ∃u w' ok' ρ',(callFunc f us.toArray).run P w= .ok (.value u) w'∧Ext ok w ρ h ok' w' ρ' h'∧Inv C ok' w' ρ' h'∧V ok' w' v ρ' u
structure gC (P:Program) (f:Nat) (e:Array Value→Sem Value):Prop where
 row : ∃ fn, P.funcs[f]? = some fn ∧ (fn.name == "runtime.NumGoroutine") = false ∧ fn.body.isNone = true ∧ Extern.findNext fn = none ∧ Extern.find fn = some e
theorem gC.run {P:Program} {f:Nat} {e:Array Value→Sem Value} (R:gC P f e) (us:Array Value) (w:World):(callFunc f us).run P w=((e us).run P w).andThen fun v w'=>.ok (.value v) w':=by
 obtain ⟨fn,h1,h2,h3,h4,h5⟩:=R.row
 exact run_callFunc_extern h1 h2 h3 h4 h5 us w
theorem nM.pure {P:Program} {C:Cx} {f:Nat} {e:Array Value→Sem Value} (R:gC P f e) {g:List AV→Option AV}
 (h: ∀args v,g args=some v→ ∀ok w ρ us,VL ok w args ρ us→ ∃u,(e us.toArray).run P w= .ok u w∧V ok w v ρ u):nM P C f (fun args h=>aq (g args) fun v=>some (v,h)):=by
 intro args hh v h' e1 ok w ρ us I hv
 obtain ⟨x,e2,e3⟩:=ab e1
 cases e3
 obtain ⟨u,h1,h2⟩:=h args v e2 ok w ρ us hv
 exact ⟨u,w,ok,ρ,by rw [R.run,h1];rfl,Ext.refl _ _ _ _,I,h2⟩
noncomputable def aq8 (l:List AV):Option AV:=
 match l with
 |[.int k1 (.ofNat a),.int k2 (.ofNat b),.int k3 (.ofNat c)]=>bq (and (and (Nat.beq k1 18446744073709551615) (Nat.beq k2 18446744073709551615)) (and (Nat.beq k3 18446744073709551615) (Nat.ble c 1)))
  (some (.tup [.int 18446744073709551615 (.ofNat (Nat.mod (Nat.add (Nat.add a b) c) 18446744073709551616)),.int 18446744073709551615 (.ofNat (Nat.div (Nat.add (Nat.add a b) c) 18446744073709551616))])) none
 |_=>none
theorem anv {P:Program} {C:Cx} {f:Nat} (R:gC P f add64Entry):nM P C f (fun args h=>aq (aq8 args) fun v=>some (v,h)):=by
 refine nM.pure R (fun args v e ok w ρ us hv=>?_)
 unfold aq8 at e
 split at e
 ·rename_i k1 a k2 b k3 c
  obtain ⟨e1,e2⟩:=av e
  cases e2
  simp only [Bool.and_eq_true] at e1
  obtain ⟨⟨h1,h2⟩,h3,h4⟩:=e1
  have h4:=Nat.le_of_ble_eq_true h4
  simp only [VL] at hv
  obtain ⟨u1,_,rfl,v1,u2,_,rfl,v2,u3,_,rfl,v3,rfl⟩:=hv
  simp only [V] at v1 v2 v3
  obtain ⟨q1,rfl,rfl⟩:=v1
  obtain ⟨q2,rfl,rfl⟩:=v2
  obtain ⟨q3,rfl,rfl⟩:=v3
  cases dr (b:=.u64) h1
  cases dr (b:=.u64) h2
  cases dr (b:=.u64) h3
  have:=run_add64 (P:=P) (a:Int) (b:Int) (c:Int) (by omega) (by omega) (by omega) (by omega) w
  refine ⟨_,this,?_⟩
  simp only [V]
  refine ⟨_,rfl,?_⟩
  simp only [VL]
  refine ⟨_,_,rfl,?_,_,_,rfl,?_,rfl⟩
  ·simp only [V]
   refine ⟨.u64,rfl,?_⟩
   congr 1
  ·simp only [V]
   refine ⟨.u64,rfl,?_⟩
   congr 1
 ·cases e
noncomputable def xf (c:Nat) (l:List Nat):Nat→Int:=List.rec (motive:=fun _=>Nat→Int) (fun _=>.negSucc 0) (fun a _ ih i=>bq (Nat.beq a c) (.ofNat i) (ih (Nat.succ i))) l
noncomputable def ait (l:List AV):Option AV:=
 match l with
 |[.str s,.int k (.ofNat c)]=>bq (and (Nat.beq k 255) (Nat.blt c 256)) (some (.int 9223372036854775807 (xf c s 0))) none
 |_=>none
theorem ue (c:UInt8): ∀(l:List UInt8) (i:Nat),xf c.toNat (l.map UInt8.toNat) i=if Lib.indexByte l c= -1 then-1 else Lib.indexByte l c+i
 |[],i=>rfl
 |a::l,i=>by
  show bq (Nat.beq a.toNat c.toNat) (.ofNat i) (xf c.toNat (l.map UInt8.toNat) (i+1))=_
  rw [ue c l (i+1)]
  have hge:=Lib.indexByte_ge l c
  by_cases h:a=c
  ·subst h
   have e1:Lib.indexByte (a::l) a=0:=by simp [Lib.indexByte]
   rw [Nat.beq_refl,au,e1]
   simp
  ·have h1:Nat.beq a.toNat c.toNat=false:=by
    rw [Bool.eq_false_iff]
    intro hh
    exact h (UInt8.toNat_inj.1 (Nat.eq_of_beq_eq_true hh))
   rw [h1,aw]
   by_cases h3:Lib.indexByte l c= -1
   ·have e1:Lib.indexByte (a::l) c= -1:=by simp [Lib.indexByte,h,h3]
    rw [e1,if_pos h3,if_pos rfl]
   ·have e1:Lib.indexByte (a::l) c=Lib.indexByte l c+1:=by simp [Lib.indexByte,h,h3]
    rw [e1,if_neg h3,if_neg (by omega)]
    push_cast
    omega
theorem ajk {P:Program} {C:Cx} {f:Nat} (R:gC P f Extern.BytealgIndexByte.indexByte):nM P C f (fun args h=>aq (ait args) fun v=>some (v,h)):=by
 refine nM.pure R (fun args v e ok w ρ us hv=>?_)
 unfold ait at e
 split at e
 ·rename_i s k c
  obtain ⟨e1,e2⟩:=av e
  cases e2
  rw [Bool.and_eq_true] at e1
  have hc:c<256:=by simpa [Nat.blt_eq] using e1.2
  simp only [VL] at hv
  obtain ⟨u1,_,rfl,v1,u2,_,rfl,v2,rfl⟩:=hv
  simp only [V] at v1 v2
  obtain ⟨S,rfl,rfl⟩:=v1
  obtain ⟨q,rfl,rfl⟩:=v2
  cases dr (b:=.u8) e1.1
  refine ⟨_,run_indexByte_string S (c:Int) w,?_⟩
  simp only [V]
  refine ⟨.i64,rfl,?_⟩
  have h1:=ue (UInt8.ofNat c) S.data.toList 0
  have h2:(UInt8.ofNat c).toNat=c:=by simp [UInt8.toNat_ofNat',Nat.mod_eq_of_lt hc]
  rw [h2] at h1
  rw [h1]
  have h3:Int.toNat (c:Int)=c:=by omega
  rw [h3]
  have h4:Nat.toUInt8 c=UInt8.ofNat c:=rfl
  rw [h4,Lib.firstIdx_eq]
  split
  ·next h=>rw [h]
  ·simp
 ·cases e
end Go.Proofs.YteapfopaiocpeaaGreatDoor
namespace Go.Proofs.YteapfopaiocpeaaGreatDoor
set_option linter.unusedSimpArgs false
set_option linter.unusedVariables false
set_option linter.unnecessarySimpa false
noncomputable section
def amw (l:List (List AV×AV)) (args:List AV):Option AV:=List.rec (motive:=fun _=>Option AV) none (fun p _ ih=>bq (AV.same (.agg p.1) (.agg args)) (some p.2) ih) l
def alZ (t:BT (List (List AV×AV))) (f:Nat) (args:List AV):Option AV:=aq (rL t f) fun l=>amw l args
end
theorem vy: ∀{l:List (List AV×AV)} {args:List AV} {v:AV},amw l args=some v→(args,v)∈l
 |[],args,v,e=>by cases e
 |p::l,args,v,e=>by
  have e:bq (AV.same (.agg p.1) (.agg args)) (some p.2) (amw l args)=some v:=e
  cases h:AV.same (.agg p.1) (.agg args) with
  |true=>
   rw [h] at e
   cases e
   rw [←iX h]
   simp
  |false=>rw [h] at e;exact List.mem_cons_of_mem _ (vy e)
theorem Inv.aB {C C':Cx} (hg:C'.gl=C.gl) {ok:Nat→Prop} {w:World} {ρ:Rho} {h:AH} (I:Inv C ok w ρ h):Inv C' ok w ρ h:=
 ⟨I.okb,I.dom,I.live,I.inj,fun g cs e=>I.gl g cs (by rw [←hg];exact e)⟩
theorem hJ.aB {P:Program} {C C':Cx} (hg:C'.gl=C.gl) {f:Nat} {args:List AV} {h:AH} {r:AV} {h':AH} (R:hJ P C f args h r h'):hJ P C' f args h r h':=
 ⟨R.1,fun ok w ρ us I hv=>(R.2 ok w ρ us (I.aB hg.symm) hv).mono fun e w' ⟨u,ok',ρ',h1,h2,h3,h4⟩=>⟨u,ok',ρ',h1,h2,h3.aB hg,h4⟩⟩
theorem aA.aB {P:Program} {C C':Cx} (hg:C'.gl=C.gl) {f:Nat} {args:List AV} {v:AV} (R:aA P C f args v):aA P C' f args v:=
 ⟨R.1,R.2.1,fun ok w us I hv=>(R.2.2 ok w us (I.aB hg.symm) hv).mono fun e w' ⟨u,ok',h1,h2,h3,h4⟩=>⟨u,ok',h1,h2,h3.aB hg,h4⟩⟩
theorem ay {P:Program} {C:Cx} (X:aY P C) {n f:Nat} {args:List AV} {v:AV} (e:aq (runG C n f args []) (kK C f [])=some (v,[])) (hl:v.lt 0=true):aA P C f args v:=by
 obtain ⟨⟨r,h1⟩,e1,e2⟩:=ab e
 obtain ⟨q1,q2⟩:=rZ X n f args [] r h1 e1
 refine ⟨q1,hl,fun ok w us I hv=>(q2 ok w ρ0 us I hv).mono fun en w'=>?_⟩
 rintro ⟨u,ok',ρ',rfl,E,I',hv'⟩
 obtain ⟨ok2,ρ2,E2,I2,V2⟩:=vW I E I' hv' e2
 have hz: ∀n r,ρ2 n=some r→False:=fun n r e=>absurd (I2.dom n r e).1 (Nat.not_lt_zero n)
 have hρ:ρ2=ρ0:=by
  funext n
  cases h:ρ2 n with
  |none=>rfl
  |some r=>exact (hz n r h).elim
 subst hρ
 exact ⟨u,ok2,rfl,E2,I2,V2⟩
def bN (P:Program) (C:Cx) (t:BT (List (List AV×AV))):Prop:=jy (fun f l=>∀p∈l,aA P C f p.1 p.2) t
theorem bN.qe {P:Program} {C:Cx} {t:BT (List (List AV×AV))} (h:bN P C t): ∀f args v,alZ t f args=some v→aA P C f args v:=by
 intro f args v e
 obtain ⟨l,e1,e2⟩:=ab e
 exact jy.get h f l e1 (args,v) (vy e2)
noncomputable def Cx.told (C:Cx) (t:BT (List (List AV×AV))):Cx:={C with qe:=alZ t}
theorem na (C:Cx) (t:BT (List (List AV×AV))):(C.told t).gl=C.gl:=rfl
theorem aY.told {P:Program} {C:Cx} (X:aY P C) {t:BT (List (List AV×AV))} (h:bN P C t):aY P (C.told t):=
 ⟨X.ty,X.one,X.fl,X.fn,fun f g e args h v h' k ok w ρ us I hv=>by
  obtain ⟨u,w',ok',ρ',h1,h2,h3,h4⟩:=X.ext f g e args h v h' k ok w ρ us (I.aB (na C t).symm) hv
  exact ⟨u,w',ok',ρ',h1,h2,h3.aB (na C t),h4⟩,
  fun f args v e=>(h.qe f args v e).aB (na C t),
  fun f g e run H args h r h' k=>(X.orc f g e run (fun f args h r h' k=>(H f args h r h' k).aB (na C t).symm) args h r h' k).aB (na C t),X.mixed,X.sq⟩
theorem bN.aB {P:Program} {C C':Cx} (hg:C'.gl=C.gl) {t:BT (List (List AV×AV))} (h:bN P C t):bN P C' t:=by
 induction t with
 |nl=>trivial
 |lf k l=>exact fun p hp=>(h p hp).aB hg
 |nd m a b iha ihb=>exact ⟨iha h.1,ihb h.2⟩
abbrev Ent:=List AV×AH×AV×AH
noncomputable def aju (l:List Ent) (args:List AV) (h:AH):Option (AV×AH):=List.rec (motive:=fun _=>Option (AV×AH)) none (fun p _ ih=>bq (AV.same (.agg p.1) (.agg args)) (bq (fW p.2.1 h) (some p.2.2) ih) ih) l
theorem sL: ∀{l:List Ent} {args:List AV} {h:AH} {x:AV×AH},aju l args h=some x→(args,h,x)∈l
 |[],args,h,x,e=>by cases e
 |p::l,args,h,x,e=>by
  have e:bq (AV.same (.agg p.1) (.agg args)) (bq (fW p.2.1 h) (some p.2.2) (aju l args h)) (aju l args h)=some x:=e
  cases h1:AV.same (.agg p.1) (.agg args) with
  |true=>
   rw [h1,au] at e
   cases h2:fW p.2.1 h with
   |true=>
    rw [h2,au] at e
    cases e
    rw [←iX h1,←mO h2]
    simp
   |false=>rw [h2] at e;exact List.mem_cons_of_mem _ (sL e)
  |false=>rw [h1] at e;exact List.mem_cons_of_mem _ (sL e)
def kI (P:Program) (C:Cx) (t:BT (List Ent)):Prop:=jy (fun f l=>∀p∈l,hJ P C f p.1 p.2.1 p.2.2.1 p.2.2.2) t
theorem kI.aB {P:Program} {C C':Cx} {t:BT (List Ent)} (h:kI P C t) (hg:C'.gl=C.gl):kI P C' t:=by
 induction t with
 |nl=>trivial
 |lf k l=>exact fun p hp=>(h p hp).aB hg
 |nd m a b iha ihb=>exact ⟨iha h.1,ihb h.2⟩
noncomputable def Cx.heard (C:Cx) (t:BT (List Ent)):Cx:={C with orc:=fun f=>Option.rec (motive:=fun _=>Option (Run→List AV→AH→Option (AV×AH))) (C.orc f) (fun l=>some fun _=>aju l) (rL t f)}
theorem iO (C:Cx) (t:BT (List Ent)):(C.heard t).gl=C.gl:=rfl
theorem aY.heard {P:Program} {C:Cx} (X:aY P C) {t:BT (List Ent)} (h0:kI P C t):aY P (C.heard t):=
 ⟨X.ty,X.one,X.fl,X.fn,fun f g e args h v h' k ok w ρ us I hv=>by
  obtain ⟨u,w',ok',ρ',h1,h2,h3,h4⟩:=X.ext f g e args h v h' k ok w ρ us (I.aB (iO C t).symm) hv
  exact ⟨u,w',ok',ρ',h1,h2,h3.aB (iO C t),h4⟩,
  fun f args v e=>(X.qe f args v e).aB (iO C t),
  fun f g e run H args h r h' k=>by
   have e:Option.rec (motive:=fun _=>Option (Run→List AV→AH→Option (AV×AH))) (C.orc f) (fun l=>some fun _=>aju l) (rL t f)=some g:=e
   cases hb:rL t f with
   |some l=>
    rw [hb] at e
    cases e
    exact (jy.get h0 f l hb (args,h,r,h') (sL k)).aB (iO C t)
   |none=>
    rw [hb] at e
    exact (X.orc f g e run (fun f args h r h' k=>(H f args h r h' k).aB (iO C t).symm) args h r h' k).aB (iO C t),X.mixed,X.sq⟩
end Go.Proofs.YteapfopaiocpeaaGreatDoor
namespace Go.Proofs.YteapfopaiocpeaaGreatDoor
set_option linter.unusedSimpArgs false
set_option linter.unusedVariables false
set_option linter.unnecessarySimpa false
theorem abT (w:World) (r j:Nat) (arr:Array Value) (e:TypeId) (fr:Nat×Nat) (v:Value) (h:w.heap[r]? =some (.cells arr e fr)):w.setCell ⟨r,j,none⟩ v=w.setRow r (arr.setIfInBounds j v):=by
 unfold World.setCell World.setRow
 congr 1
 apply Array.ext_getElem?
 intro i
 simp only [Array.getElem?_modify]
 split
 ·subst_vars
  rw [h]
  simp
 ·rfl
section
variable {P:Program} {C:Cx} {ok:Nat→Prop} {w:World} {ρ:Rho} {h:AH}
theorem fh (I:Inv C ok w ρ h) {b o y:Nat} {cs:List AV} {c:AV} (hb:aa h b=some (.cells cs y)) (hc:dD cs o=some c):
 ∃r u,ρ b=some r∧w.cell? ⟨r,o,none⟩=some u∧V ok w c ρ u∧w.frozen? ⟨r,o,none⟩=false∧
  ∀c' u',V ok w c' ρ u'→Ext ok w ρ h ok (w.setCell ⟨r,o,none⟩ u') ρ (bt (some (.cells (bt c' cs o) y)) h b)∧Inv C ok (w.setCell ⟨r,o,none⟩ u') ρ (bt (some (.cells (bt c' cs o) y)) h b):=by
 obtain ⟨r,arr,e,fr,k1,k2,k3,k4,k5,k6,k7⟩:=sj I hb
 obtain ⟨q,g1,g2,arr0,e0,fr0,g3,g4,g5,g6⟩:=I.live b _ hb
 rw [k1] at g1;cases g1
 rw [k3] at g3;cases g3
 rw [bw] at hc
 obtain ⟨u,c1,c2⟩:=xW g5 hc
 rw [Nat.zero_add] at c1
 have hlt:o<cs.length:=(List.getElem?_eq_some_iff.1 hc).1
 refine ⟨r,u,k1,c1,c2,?_,fun c' u' hv=>?_⟩
 ·obtain ⟨lo,hi⟩:=fr
  have:=g4 o (by omega)
  simp [World.frozen?,k3]
  simp at this
  omega
 ·rw [abT w r o arr _ fr _ k3]
  refine k7 (bt c' cs o) (arr.setIfInBounds o u') (by simp) ?_
  rw [cC,List.length_set,Array.toList_setIfInBounds,nR]
  exact s9 o k5 hv
end
noncomputable section
def fH (h:AH) (b o:Nat) (f:AV→(AV→AH)→Option (AV×AH)):Option (AV×AH):=
 match aa h b with
 |some (.cells cs y)=>aq (dD cs o) fun c=>f c fun v=>bt (some (.cells (bt v cs o) y)) h b
 |_=>none
def lQ (m:Nat) (c:AV) (f:Int→Option (AV×AH)):Option (AV×AH):=
 match c with
 | .int k n=>bq (Nat.beq k m) (f n) none
 |_=>none
def oN (m:Nat) (args:List AV) (h:AH):Option (AV×AH):=
 match args with
 |[.pto b o]=>fH h b o fun c _=>lQ m c fun n=>some (.int m n,h)
 |_=>none
def tS (m:Nat) (args:List AV) (h:AH):Option (AV×AH):=
 match args with
 |[.pto b o,x]=>fH h b o fun c s=>lQ m c fun _=>lQ m x fun n=>some (.tup [],s (.int m n))
 |_=>none
def mh (m:Nat) (args:List AV) (h:AH):Option (AV×AH):=
 match args with
 |[.pto b o,x]=>fH h b o fun c s=>lQ m c fun z=>lQ m x fun n=>some (.int m (aM m (dX z n)),s (.int m (aM m (dX z n))))
 |_=>none
def aaW (m:Nat) (args:List AV) (h:AH):Option (AV×AH):=
 match args with
 |[.pto b o,x,x']=>fH h b o fun c s=>lQ m c fun z=>lQ m x fun n=>lQ m x' fun n'=>bq (bP z n) (some (.bool true,s (.int m n'))) (some (.bool false,h))
 |_=>none
end
theorem dG {h:AH} {b o:Nat} {f:AV→(AV→AH)→Option (AV×AH)} {r:AV×AH} (e:fH h b o f=some r): ∃cs y c,aa h b=some (.cells cs y)∧dD cs o=some c∧f c (fun v=>bt (some (.cells (bt v cs o) y)) h b)=some r:=by
 unfold fH at e
 split at e
 ·rename_i cs y hb
  obtain ⟨c,e1,e2⟩:=ab e
  exact ⟨cs,y,c,hb,e1,e2⟩
 ·cases e
theorem c7 {m:Nat} {c:AV} {f:Int→Option (AV×AH)} {r:AV×AH} (e:lQ m c f=some r): ∃n,c= .int m n∧f n=some r:=by
 unfold lQ at e
 split at e
 ·rename_i k n
  obtain ⟨e1,e2⟩:=av e
  obtain rfl:=Nat.eq_of_beq_eq_true e1
  exact ⟨n,rfl,e2⟩
 ·cases e
section
variable {P:Program} {C:Cx} {f:Nat} {k:IntKind}
theorem mc {ok:Nat→Prop} {w:World} {ρ:Rho} {n:Int} {u:Value} (h:V ok w (.int (cL k) n) ρ u):u= .int k n:=by
 simp only [V] at h
 obtain ⟨k',h1,rfl⟩:=h
 cases k<;>cases k'<;>first|rfl|(exact absurd h1 (by decide))
theorem gH {ok:Nat→Prop} {w:World} {ρ:Rho} {n:Int}:V ok w (.int (cL k) n) ρ (.int k n):=by
 simp only [V]
 exact ⟨k,rfl,rfl⟩
theorem sI {w:World} {ad:Addr} {v:Int} (hc:w.cell? ad=some (.int k v)):(Extern.Atomic.loadT (.int k) #[.pointer (some ad)]).run P w= .ok (.int k v) w:=by
 change Sem.run P (do Extern.Atomic.read (.int k) (←asAddr (.pointer (some ad)))) w=_
 simp [Extern.Atomic.read,asAddr,hc,Result.andThen]
theorem rJ {w:World} {ad:Addr} {v n:Int} (hc:w.cell? ad=some (.int k v)) (hz:w.frozen? ad=false):(Extern.Atomic.storeT #[.pointer (some ad),.int k n]).run P w= .ok (.tuple #[]) (w.setCell ad (.int k n)):=by
 change Sem.run P (do
  store (←asAddr (.pointer (some ad))) (.int k n) .atomic
  pure Extern.Atomic.none_) w=_
 simp [Extern.Atomic.none_,asAddr,hc,hz,run_store P w ad (.int k n) .atomic rfl,Result.andThen]
theorem afa (R:gC P f (Extern.Atomic.loadT (.int k))):nM P C f (oN (cL k)):=by
 intro args h v h' e ok w ρ us I hv
 unfold oN at e
 split at e
 ·rename_i b o
  obtain ⟨cs,y,c,e1,e2,e3⟩:=dG e
  obtain ⟨n,rfl,e4⟩:=c7 e3
  cases e4
  obtain ⟨r,u,g1,g2,g3,g4,g5⟩:=fh I e1 e2
  simp only [VL] at hv
  obtain ⟨u1,_,rfl,v1,rfl⟩:=hv
  simp only [V] at v1
  obtain ⟨r',h1,rfl⟩:=v1
  rw [g1] at h1;cases h1
  cases mc g3
  exact ⟨_,w,ok,ρ,by rw [R.run,sI g2];rfl,Ext.refl _ _ _ _,I,gH⟩
 ·cases e
theorem acb (R:gC P f Extern.Atomic.storeT):nM P C f (tS (cL k)):=by
 intro args h v h' e ok w ρ us I hv
 unfold tS at e
 split at e
 ·rename_i b o x
  obtain ⟨cs,y,c,e1,e2,e3⟩:=dG e
  obtain ⟨z,rfl,e4⟩:=c7 e3
  obtain ⟨n,rfl,e5⟩:=c7 e4
  cases e5
  obtain ⟨r,u,g1,g2,g3,g4,g5⟩:=fh I e1 e2
  simp only [VL] at hv
  obtain ⟨u1,_,rfl,v1,u2,_,rfl,v2,rfl⟩:=hv
  simp only [V] at v1
  obtain ⟨r',h1,rfl⟩:=v1
  rw [g1] at h1;cases h1
  cases mc g3
  cases mc v2
  obtain ⟨E,I'⟩:=g5 (.int (cL k) n) (.int k n) gH
  exact ⟨_,_,ok,ρ,by rw [R.run,rJ g2 g4];rfl,E,I',by simp only [V];exact ⟨#[],rfl,by simp only [VL]⟩⟩
 ·cases e
theorem uJ (hk: ∀n,aM (cL k) n=k.wrap n) (R:gC P f (Extern.Atomic.update (Op.intArith .add) k true)):nM P C f (mh (cL k)):=by
 intro args h v h' e ok w ρ us I hv
 unfold mh at e
 split at e
 ·rename_i b o x
  obtain ⟨cs,y,c,e1,e2,e3⟩:=dG e
  obtain ⟨z,rfl,e4⟩:=c7 e3
  obtain ⟨n,rfl,e5⟩:=c7 e4
  cases e5
  obtain ⟨r,u,g1,g2,g3,g4,g5⟩:=fh I e1 e2
  simp only [VL] at hv
  obtain ⟨u1,_,rfl,v1,u2,_,rfl,v2,rfl⟩:=hv
  simp only [V] at v1
  obtain ⟨r',h1,rfl⟩:=v1
  rw [g1] at h1;cases h1
  cases mc g3
  cases mc v2
  have hi:dX z n=z+n:=by cases z<;>cases n<;>simp [dX]<;>rfl
  obtain ⟨E,I'⟩:=g5 (.int (cL k) (aM (cL k) (dX z n))) (.int k (k.wrap (z+n))) (by rw [hk,hi];exact gH)
  exact ⟨_,_,ok,ρ,by rw [R.run,Go.Conc.run_add_entry g2 g4];rfl,E,I',by rw [hk,hi];exact gH⟩
 ·cases e
theorem amo (R:gC P f (Extern.Atomic.casT (.int k))):nM P C f (aaW (cL k)):=by
 intro args h v h' e ok w ρ us I hv
 unfold aaW at e
 split at e
 ·rename_i b o x x'
  obtain ⟨cs,y,c,e1,e2,e3⟩:=dG e
  obtain ⟨z,rfl,e4⟩:=c7 e3
  obtain ⟨n,rfl,e5⟩:=c7 e4
  obtain ⟨n',rfl,e6⟩:=c7 e5
  obtain ⟨r,u,g1,g2,g3,g4,g5⟩:=fh I e1 e2
  simp only [VL] at hv
  obtain ⟨u1,_,rfl,v1,u2,_,rfl,v2,u3,_,rfl,v3,rfl⟩:=hv
  simp only [V] at v1
  obtain ⟨r',h1,rfl⟩:=v1
  rw [g1] at h1;cases h1
  cases mc g3
  cases mc v2
  cases mc v3
  have hi:bP z n=decide (z=n):=by
   cases z<;>cases n<;>simp [bP]<;>(try (rw [Bool.eq_iff_iff];simp))<;>(try omega)
  rw [hi] at e6
  by_cases hz:z=n
  ·subst hz
   rw [decide_eq_true rfl,au] at e6
   cases e6
   obtain ⟨E,I'⟩:=g5 (.int (cL k) n') (.int k n') gH
   exact ⟨_,_,ok,ρ,by rw [R.run];show ((Extern.Atomic.casT (.int k) #[.pointer (some _),.int k z,.int k n']).run P w).andThen _=_;rw [Go.Conc.casT_eq,Go.Conc.run_cas_hit_entry g2 g4];rfl,E,I',by simp only [V]⟩
  ·rw [decide_eq_false hz,aw] at e6
   cases e6
   exact ⟨_,_,ok,ρ,by rw [R.run];show ((Extern.Atomic.casT (.int k) #[.pointer (some _),.int k n,.int k n']).run P w).andThen _=_;rw [Go.Conc.casT_eq,Go.Conc.run_cas_miss_entry g2 g4 hz];rfl,Ext.refl _ _ _ _,I,by simp only [V]⟩
 ·cases e
end
end Go.Proofs.YteapfopaiocpeaaGreatDoor
namespace Go.Proofs.YteapfopaiocpeaaGreatDoor
noncomputable section
def ajm (run:Nat→List AV→AH→Option (AV×AH)) (args:List AV) (h:AH):Option (AV×AH):=
 match args with
 |[.pto b o,.fn f [] [.pto q z]]=>
  fH h b o fun c0 _=>lQ 4294967295 c0 fun d=>bq (bP d 0) (fH h b (Nat.succ o) fun c1 s1=>lQ 2147483647 c1 fun m=>bq (bP m 0)
   (aq (run f [.pto q z] (s1 (.int 2147483647 1))) fun x=>fH x.2 b o fun c2 s2=>lQ 4294967295 c2 fun _=>
    fH (s2 (.int 4294967295 1)) b (Nat.succ o) fun c3 s3=>lQ 2147483647 c3 fun m'=>bq (bP m' 1) (some (.tup [],s3 (.int 2147483647 0))) none) none) none
 |_=>none
end
end Go.Proofs.YteapfopaiocpeaaGreatDoor
namespace Go.Proofs.YteapfopaiocpeaaGreatDoor
set_option linter.unusedSimpArgs false
set_option linter.unusedVariables false
set_option linter.unnecessarySimpa false
noncomputable section
end
theorem aqr: ∀{m:Nat} {k:IntKind},(∀n,pR m n=k.wrap n)→(∀n:Nat,n≤m→k.wrap n=n)→ ∀n,aM m n=k.wrap n:=by
 intro m k hk hm n
 cases n with
 |ofNat a=>
  show bq (Nat.ble a m) (Int.ofNat a) (pR m (.ofNat a))=_
  by_cases h:a≤m
  ·rw [Nat.ble_eq_true_of_le h];exact (hm a h).symm
  ·have:Nat.ble a m=false:=by rw [Bool.eq_false_iff];intro c;exact h (Nat.le_of_ble_eq_true c)
   rw [this];exact hk _
 |negSucc a=>exact hk _
theorem alY (k:IntKind) (n:Int):aM (cL k) n=k.wrap n:=by
 cases k<;>(refine aqr (fun _=>rfl) (fun n hn=>?_) n;simp [cL] at hn;simp [IntKind.wrap,IntKind.min,IntKind.max,IntKind.signed,IntKind.bits];omega)
end Go.Proofs.YteapfopaiocpeaaGreatDoor
namespace Go.Proofs.YteapfopaiocpeaaGreatDoor
set_option linter.unusedSimpArgs false
set_option linter.unusedVariables false
set_option linter.unnecessarySimpa false
def TyL (T:TypeId→List AV→Prop):List TypeId→List AV→Prop
 |[],as=>as=[]
 |t::ts,as=>∃a r,as=a++r∧T t a∧TyL T ts r
def TyC (P:Program):Nat→TypeId→List AV→Prop
 |0,_,_=>False
 |n+1,t,as=>as.length=P.cellsOf t∧match P.underlying t with
  |some .bool=>∃b,as=[.bool b]
  |some (.int k)=>∃x,as=[.int (cL k) x]∧(Lit.int k x).wf=true
  |some .string=>∃l,as=[.str l]∧(∀b∈l,b<256)∧l.length≤maxLen
  |some (.struct fs)=>TyL (TyC P n) (fs.toList.map (·.type)) as
  |some (.array m e)=>TyL (TyC P n) (List.replicate m e) as
  |some (.slice e)=>as=[.nils]∨as=[.sle]∨ ∃cs len,as=[.slp cs len]∧0<len∧len≤maxLen∧TyL (TyC P n) (List.replicate len e) cs
  |_=>False
section
variable {P:Program} {w:World} {ok:Nat→Prop}
theorem TyC.len {n:Nat} {t:TypeId} {as:List AV} (h:TyC P n t as):as.length=P.cellsOf t:=by
 cases n with
 |zero=>exact h.elim
 |succ n=>exact h.1
theorem TyL.len {n:Nat}: ∀{ts:List TypeId} {as:List AV},TyL (TyC P n) ts as→as.length=(ts.map P.cellsOf).sum
 |[],as,h=>by rw [show as=[] from h];rfl
 |t::ts,as,h=>by
  obtain ⟨a,r,rfl,h1,h2⟩:=h
  rw [List.length_append,h1.len,TyL.len h2];simp
theorem x7 (c:Nat): ∀n,(List.replicate n c).sum=n*c
 |0=>by simp
 |n+1=>by rw [List.replicate_succ,List.sum_cons,x7 c n,Nat.succ_mul];omega
theorem TyL.elem {T:TypeId→List AV→Prop} {e:TypeId} {c:Nat} (hc: ∀as,T e as→as.length=c): ∀{len:Nat} {cs:List AV},TyL T (List.replicate len e) cs→ ∀i,i<len→T e ((cs.drop (i*c)).take c)
 |0,_,_,i,hi=>by omega
 |len+1,cs,h,i,hi=>by
  rw [List.replicate_succ] at h
  obtain ⟨a,r,rfl,h1,h2⟩:=h
  have hl:=hc a h1
  cases i with
  |zero=>simpa [←hl] using h1
  |succ i=>
   have:=TyL.elem hc h2 i (by omega)
   rw [show (i+1)*c=a.length+i*c by rw [Nat.succ_mul,hl];omega,List.drop_append,List.drop_eq_nil_of_le (by omega),List.nil_append,Nat.add_sub_cancel_left]
   exact this
theorem build (T:TypeId→List AV→Prop): ∀(ts:List TypeId) (cs:List Value),cs.length=(ts.map P.cellsOf).sum→
 (∀(j:Nat) t,ts[j]? =some t→ ∃as,VL ok w as ρ0 ((cs.drop ((ts.take j).map P.cellsOf).sum).take (P.cellsOf t))∧T t as)→ ∃as,VL ok w as ρ0 cs∧TyL T ts as
 |[],cs,hl,_=>by
  obtain rfl:cs=[]:=by simpa using hl
  exact ⟨[],by simp [VL],rfl⟩
 |t::ts,cs,hl,H=>by
  obtain ⟨a,ha,hT⟩:=H 0 t rfl
  obtain ⟨r,hr,hR⟩:=build T ts (cs.drop (P.cellsOf t)) (by simp at hl ⊢;omega) (fun j u hj=>by
   obtain ⟨as,h1,h2⟩:=H (j+1) u (by simpa using hj)
   refine ⟨as,?_,h2⟩
   rw [List.drop_drop]
   simpa using h1)
  refine ⟨a++r,?_,a,r,rfl,hT,hR⟩
  have:=gh ha hr
  simpa using this
theorem adB {ok:Nat→Prop} {w:World}: ∀{a b:List AV} {ρ:Rho} {r p:Nat},VAt ok w a ρ r p→VAt ok w b ρ r (p+a.length)→VAt ok w (a++b) ρ r p
 |[],b,ρ,r,p,_,h=>by simpa using h
 |x::a,b,ρ,r,p,h1,h2=>by
  simp only [VAt,List.cons_append] at h1 ⊢
  exact ⟨h1.1,adB h1.2 (by rw [show p+1+a.length=p+(x::a).length by simp;omega];exact h2)⟩
theorem pU {ok:Nat→Prop} {w:World} {ρ:Rho} {r:Nat}: ∀{as:List AV} {us:List Value} {p:Nat},VL ok w as ρ us→(∀i (h:i<us.length),w.cell? ⟨r,p+i,none⟩=some us[i])→VAt ok w as ρ r p
 |[],us,p,_,_=>by simp only [VAt]
 |a::as,us,p,h,H=>by
  simp only [VL] at h
  obtain ⟨u,rest,rfl,h1,h2⟩:=h
  simp only [VAt]
  refine ⟨⟨u,H 0 (by simp),h1⟩,pU h2 fun i hi=>?_⟩
  have:=H (i+1) (by simpa using hi)
  rw [show p+1+i=p+(i+1) by omega]
  simpa using this
theorem aem (T:TypeId→List AV→Prop) (e:TypeId) (c r:Nat) (hc: ∀as,T e as→as.length=c): ∀(len p:Nat),
 (∀i,i<len→ ∃us as,us.length=c∧(∀j (h:j<us.length),w.cell? ⟨r,p+i*c+j,none⟩=some us[j])∧VL ok w as ρ0 us∧T e as)→ ∃cs,VAt ok w cs ρ0 r p∧TyL T (List.replicate len e) cs
 |0,p,_=>⟨[],by simp only [VAt],rfl⟩
 |len+1,p,H=>by
  obtain ⟨us,as,h1,h2,h3,h4⟩:=H 0 (by omega)
  obtain ⟨cs,k1,k2⟩:=aem T e c r hc len (p+c) (fun i hi=>by
   obtain ⟨us,as,h1,h2,h3,h4⟩:=H (i+1) (by omega)
   refine ⟨us,as,h1,fun j hj=>?_,h3,h4⟩
   rw [show p+c+i*c+j=p+(i+1)*c+j by rw [Nat.succ_mul];omega]
   exact h2 j hj)
  refine ⟨as++cs,adB (pU h3 fun i hi=>?_) ?_,?_⟩
  ·simpa using h2 i hi
  ·rw [hc as h4];exact k1
  ·rw [List.replicate_succ];exact ⟨as,cs,rfl,h4,k2⟩
theorem vU {w:World} {base:Nat} {a:Addr} {n:Nat} {us:List Value} (h:w.cells? base a n=some us):us.length=n∧ ∀j (hj:j<us.length),w.cell? (a.add j)=some us[j]:=by
 unfold World.cells? at h
 split at h
 ·have h1:=mapM_some_length h
  refine ⟨by simpa using h1,fun j hj=>?_⟩
  have:=mapM_some_get h j j (by rw [List.getElem?_range (by simp at h1;omega)])
  rw [this,List.getElem?_eq_getElem hj]
 ·cases h
def oO (P:Program) (ts:List TypeId) (t:TypeId):Bool:=decide (t<P.types.size)&&match P.underlying t with
 |some .bool|some .string=>P.cellsOf t==1
 |some (.int _)=>P.cellsOf t==1
 |some (.struct fs)=>fs.toList.all fun f=>ts.contains f.type
 |some (.array _ e)=>ts.contains e
 |some (.slice e)=>P.cellsOf t==1&&ts.contains e&&decide (0<P.cellsOf e)
 |_=>false
def rY (P:Program) (ts:List TypeId):Bool:=ts.all (oO P ts)
theorem tR {ts:List TypeId} (h:rY P ts=true) {t:TypeId} (ht:t∈ts):oO P ts t=true:=List.all_eq_true.1 h t ht
variable {H:Type} {enc:TypeId×Value→H} {base:Nat} {spare:Nat→Bool}
theorem apq (hl:laidOutB P=true) {ts:List TypeId} (hc:rY P ts=true): ∀(n:Nat) (t:TypeId) (cs:List Value) (x:DataW H×List MemPlace),t∈ts→
 DataW.trod enc P w base spare true n t cs=some x→(∀p∈x.2,p.block<w.heap.size)→ ∃as,VL (· <w.heap.size) w as ρ0 cs∧TyC P n t as:=by
 intro n
 induction n with
 |zero=>intro t cs x ht h _;simp [DataW.trod] at h
 |succ n ih=>
  intro t cs x ht h hp
  have hr:=tR hc ht
  unfold oO at hr
  rw [Bool.and_eq_true] at hr
  obtain ⟨hlt,hr⟩:=hr
  have hlt:=of_decide_eq_true hlt
  cases hu:P.underlying t with
  |none=>rw [hu] at hr;cases hr
  |some d=>
   rw [hu] at hr
   cases d with
   |bool=>
    obtain ⟨b,rfl,_⟩:=DataW.trod_bool hu h
    refine ⟨[.bool b],by simp [VL,V],(beq_iff_eq.1 hr).symm,?_⟩
    rw [hu];exact ⟨b,rfl⟩
   |int k=>
    obtain ⟨m,rfl,_,hw⟩:=DataW.trod_int hu h
    refine ⟨[.int (cL k) m],by simp [VL,V],(beq_iff_eq.1 hr).symm,?_⟩
    rw [hu];exact ⟨m,rfl,hw⟩
   |string=>
    obtain ⟨s,rfl,_,hs⟩:=DataW.trod_string hu h
    refine ⟨[.str (s.data.toList.map UInt8.toNat)],by simp [VL,V],(beq_iff_eq.1 hr).symm,?_⟩
    rw [hu]
    refine ⟨_,rfl,?_,?_⟩
    ·intro b hb
     obtain ⟨c,_,rfl⟩:=List.mem_map.1 hb
     exact c.toNat_lt
    ·simpa using hs
   |struct fs=>
    obtain ⟨xs,m,hm,rfl,hlen,hx,hel⟩:=DataW.trod_struct hu h
    obtain rfl:=Nat.succ.inj hm
    obtain ⟨_,h2,h3⟩:=kid_struct hl hlt hu
    have hin: ∀f∈fs.toList,f.type∈ts:=fun f hf=>by simpa using List.all_eq_true.1 hr f hf
    obtain ⟨as,hv,hT⟩:=build (P:=P) (w:=w) (ok:=(· <w.heap.size)) (TyC P n) (fs.toList.map (·.type)) cs (by rw [hlen,h2,List.map_map];rfl) (fun j u hj=>by
     simp only [List.getElem?_map,Option.map_eq_some_iff] at hj
     obtain ⟨f,hf,rfl⟩:=hj
     have hj':j<xs.length:=by rw [hx];simpa using (List.getElem?_eq_some_iff.1 hf).1
     have e:=hel j f (by simpa using hf)
     rw [List.getElem?_eq_getElem hj',h3 j f hf] at e
     obtain ⟨as,k1,k2⟩:=ih f.type _ _ (hin f (List.mem_of_getElem? hf)) e (fun p hp'=>hp p (List.mem_flatMap.2 ⟨_,List.getElem_mem hj',hp'⟩))
     refine ⟨as,?_,k2⟩
     rw [←List.map_take,List.map_map]
     exact k1)
    refine ⟨as,hv,by rw [←bM hv];exact hlen,?_⟩
    rw [hu];exact hT
   |array m e=>
    obtain ⟨xs,k,hk,rfl,hlen,hx,hel⟩:=DataW.trod_array hu h
    obtain rfl:=Nat.succ.inj hk
    have h2:=(kid_array hl hlt hu).2
    obtain ⟨as,hv,hT⟩:=build (P:=P) (w:=w) (ok:=(· <w.heap.size)) (TyC P n) (List.replicate m e) cs (by rw [hlen,h2,List.map_replicate,x7]) (fun j u hj=>by
     rw [List.getElem?_replicate] at hj
     by_cases hj1:j<m
     case neg=>rw [if_neg hj1] at hj;cases hj
     rw [if_pos hj1] at hj
     cases hj
     have hj':j<xs.length:=by omega
     have e:=hel j hj1
     rw [List.getElem?_eq_getElem hj'] at e
     obtain ⟨as,k1,k2⟩:=ih _ _ _ (by simpa using hr) e (fun p hp'=>hp p (List.mem_flatMap.2 ⟨_,List.getElem_mem hj',hp'⟩))
     refine ⟨as,?_,k2⟩
     rw [List.take_replicate,List.map_replicate,x7,show min j m=j by omega]
     exact k1)
    refine ⟨as,hv,by rw [←bM hv];exact hlen,?_⟩
    rw [hu];exact hT
   |slice e=>
    rw [Bool.and_eq_true,Bool.and_eq_true] at hr
    obtain ⟨⟨hr1,hr2⟩,hr3⟩:=hr
    have hr3:=of_decide_eq_true hr3
    rcases DataW.trod_slice hu h with ⟨rfl,_⟩|⟨a,len,cap,elems,rest,k,hk,rfl,rfl,hb,hlc,hcm,hn,hel,_,_⟩
    ·refine ⟨[.nils],by simp [VL,V],(beq_iff_eq.1 hr1).symm,?_⟩
     rw [hu];exact .inl rfl
    obtain rfl:=Nat.succ.inj hk
    by_cases h0:len=0
    ·subst h0
     refine ⟨[.sle],by simp [VL,V],(beq_iff_eq.1 hr1).symm,?_⟩
     rw [hu];exact .inr (.inl rfl)
    obtain ⟨b,off,spot⟩:=a
    have hfirst:=hel 0 (by omega)
    rw [List.getElem?_eq_getElem (by omega),Option.bind_eq_some_iff] at hfirst
    obtain ⟨us0,hc0,_⟩:=hfirst
    have hspot:spot=none:=by
     obtain ⟨g1,g2⟩:=vU hc0
     simpa [Addr.add] using World.cell?_spot (g2 0 (by omega))
    subst hspot
    have hblt:b<w.heap.size:=by
     have hmem:MemPlace.cell b off∈MemPlace.row ⟨b,off,none⟩ ((elems.length+rest.length)*P.cellsOf e):=by
      refine List.mem_map.2 ⟨0,List.mem_range.2 (Nat.mul_pos (by omega) hr3),rfl⟩
     exact hp _ (List.mem_append_left _ hmem)
    obtain ⟨as,k1,k2⟩:=aem (w:=w) (ok:=(· <w.heap.size)) (TyC P n) e (P.cellsOf e) b (fun as h=>h.len) len off (fun i hi=>by
     have e1:=hel i hi
     rw [List.getElem?_eq_getElem (by omega),Option.bind_eq_some_iff] at e1
     obtain ⟨us,c1,c2⟩:=e1
     obtain ⟨g1,g2⟩:=vU c1
     obtain ⟨as,v1,v2⟩:=ih e us _ (by simpa using hr2) c2 (fun p hp'=>hp p (List.mem_append_right _ (List.mem_flatMap.2 ⟨_,List.mem_append_left _ (List.getElem_mem (by omega)),hp'⟩)))
     refine ⟨us,as,g1,fun j hj=>?_,v1,v2⟩
     have:=g2 j hj
     rwa [Go.WideShapes.add_plain,Go.WideShapes.add_plain] at this)
    refine ⟨[.slp as len],?_,(beq_iff_eq.1 hr1).symm,?_⟩
    ·simp only [VL,V]
     exact ⟨_,_,rfl,⟨b,off,cap,hblt,rfl,hlc,k1⟩,rfl⟩
    ·rw [hu];exact .inr (.inr ⟨as,len,rfl,by omega,by omega,k2⟩)
   |_=>cases hr
end
end Go.Proofs.YteapfopaiocpeaaGreatDoor
namespace Go.Proofs.YteapfopaiocpeaaGreatDoor
set_option linter.unusedSimpArgs false
set_option linter.unusedVariables false
set_option linter.unnecessarySimpa false
section
variable {C:Cx} {run:Run} {lp:Lp} {s:St} {h:AH} {κ:Ka}
theorem kB (a b:Nat):Nat.beq a b=decide (a=b):=by
 by_cases e:a=b
 ·subst e;simp
 ·have:Nat.beq a b=false:=by rw [Bool.eq_false_iff];intro c;exact e (Nat.eq_of_beq_eq_true c)
  rw [this];simp [e]
theorem bR (a b:Nat):Nat.ble a b=decide (a≤b):=by
 by_cases e:a≤b
 ·rw [Nat.ble_eq_true_of_le e];simp [e]
 ·have:Nat.ble a b=false:=by rw [Bool.eq_false_iff];intro c;exact e (Nat.le_of_ble_eq_true c)
  rw [this];simp [e]
theorem uT (a b:Nat):Nat.blt a b=decide (a<b):=bR _ _
theorem zt (a b:Int):bP a b=decide (a=b):=by
 cases a<;>cases b<;>simp [bP,kB]<;>omega
theorem vI (a b:Int):uo a b=decide (a<b):=by
 cases a<;>cases b<;>simp [uo,uT]<;>omega
theorem iltE (a b:Int):ilt a b=decide (a<b):=vI a b
theorem igtE (a b:Int):igt a b=decide (b<a):=vI b a
theorem ileE (a b:Int):ile a b=decide (a≤b):=by
 unfold ile;rw [vI];by_cases h:a≤b<;>simp [h]<;>omega
theorem igeE (a b:Int):ige a b=decide (b≤a):=by
 unfold ige;rw [vI];by_cases h:b≤a<;>simp [h]<;>omega
theorem ineE (a b:Int):ine a b=decide (a≠b):=by
 unfold ine;rw [zt];simp
theorem bz {α:Type} {p:Prop} [Decidable p] (h:p) (a b:α):bq (decide p) a b=a:=by rw [decide_eq_true h];rfl
theorem iN {α:Type} {p:Prop} [Decidable p] (h: ¬p) (a b:α):bq (decide p) a b=b:=by rw [decide_eq_false h];rfl
theorem apV (a b:Int):dX a b=a+b:=by
 cases a<;>cases b<;>simp [dX]<;>rfl
theorem asn (a b:Int):gU a b=a-b:=by
 cases a with
 |ofNat m=>cases b with
  |ofNat n=>
   show bq (Nat.ble n m) (Int.ofNat (Nat.sub m n)) (Int.sub (.ofNat m) (.ofNat n))=_
   rw [bR]
   by_cases h:n≤m
   ·rw [bz h]
    show ((m-n:Nat):Int)=(m:Int)-(n:Int)
    omega
   ·rw [iN h];rfl
  |negSucc n=>rfl
 |negSucc m=>rfl
theorem apL (a b:Int):pV a b=a*b:=by
 cases a<;>cases b<;>simp [pV]<;>rfl
theorem ahf (n:Int):pR 9223372036854775807 n=IntKind.i64.wrap n:=(rfl)
theorem afE (n:Int):pR 18446744073709551615 n=IntKind.u64.wrap n:=(rfl)
theorem rD {n:Int} (h1: -9223372036854775808≤n) (h2:n≤9223372036854775807):IntKind.i64.wrap n=n:=by
 simp [IntKind.wrap,IntKind.min,IntKind.max,IntKind.signed,IntKind.bits];omega
theorem ru {n:Int} (h1:0≤n) (h2:n≤18446744073709551615):IntKind.u64.wrap n=n:=by
 simp [IntKind.wrap,IntKind.min,IntKind.max,IntKind.signed,IntKind.bits];omega
theorem aam {m:Nat} {k:IntKind} (hk: ∀n,pR m n=k.wrap n) (hm: ∀n:Nat,n≤m→k.wrap n=n) (n:Int):aM m n=k.wrap n:=by
 cases n with
 |ofNat a=>
  show bq (Nat.ble a m) (Int.ofNat a) (pR m (.ofNat a))=_
  rw [bR]
  by_cases h:a≤m
  ·rw [bz h];exact (hm a h).symm
  ·rw [iN h,hk]
 |negSucc a=>exact hk _
theorem aT {n:Int} (h1: -9223372036854775808≤n) (h2:n≤9223372036854775807):aM 9223372036854775807 n=n:=by
 rw [aam ahf (fun a ha=>rD (by omega) (by omega)),rD h1 h2]
theorem gp {n:Int} (h1:0≤n) (h2:n≤18446744073709551615):aM 18446744073709551615 n=n:=by
 rw [aam afE (fun a ha=>ru (by omega) (by omega)),ru h1 h2]
theorem zE (a b:Nat):abS (a:Int) (b:Int)=((a%b:Nat):Int):=(rfl)
theorem ajV (a b:Nat):aiy (a:Int) (b:Int)=((a/b:Nat):Int):=(rfl)
theorem eY (t:Tms) (h:AH):eZ (some (.st t h))=some (.nrm,⟨t,h⟩):=(rfl)
theorem aj7 (x:AV):aN x h κ=κ x h:=(rfl)
theorem amE (c:Bool) (a b:AV):dh (.bool c) a b h κ=κ (bq c a b) h:=(rfl)
theorem dP (y:Nat) (x:AV):gN y x h κ=bq x.nb (κ (.pto h.length 0) (h++[some (.cells x.cells y)])) none:=by
 unfold gN eH;rw [ah,aP]
theorem eX (b:Blk):eH h b κ=κ (.pto h.length 0) (h++[some b]):=by unfold eH;rw [ah,aP]
theorem cmp_eq (g:Int→Int→Bool) (k:Nat) (a b:Int):cmp g (.int k a) (.int k b) h κ=κ (.bool (g a b)) h:=by
 show bq (Nat.beq k k) _ _=_
 rw [Nat.beq_refl];rfl
theorem zU (g:Int→Int→Int) (k:Nat) (a b:Int):arith g (.int k a) (.int k b) h κ=κ (.int k (aM k (g a b))) h:=by
 show bq (Nat.beq k k) _ _=_
 rw [Nat.beq_refl];rfl
theorem anJ (k:Nat) (a b:Int):ac4 (.int k a) (.int k b) h κ=bq (decide (b≠0)) (κ (.int k (abS a b)) h) none:=by
 show bq (and (Nat.beq k k) (not (bP b (.ofNat 0)))) _ _=_
 rw [Nat.beq_refl,zt];simp
theorem aoN (b:Bool):lD (.bool b) h κ=κ (.bool (not b)) h:=(rfl)
theorem kU (n b o:Nat):aj n (.pto b o) h κ=κ (.pto b (o+n)) h:=(rfl)
theorem ad1 (n:Nat) (cs:List AV) (o:Nat):aj n (.ptp cs o) h κ=κ (.ptp cs (o+n)) h:=(rfl)
theorem uw (cs:List AV) (y:Nat) (f:List AV→Nat→Option Rs) (g:Nat→List (List AV)→Nat→Option Rs):va (.cells cs y) f g=f cs y:=(rfl)
theorem pX (b o:Nat):ao (.pto b o) h κ=aq (aa h b) fun B=>va B (fun cs _=>aq cs[o]? fun v=>κ v h) (fun z ll _=>afP κ h o z ll):=by
 show dZ h b (fun cs _=>rM κ h o cs) _=_
 unfold dZ rM pn
 simp only [cV]
theorem xV (cs:List AV) (o:Nat):ao (.ptp cs o) h κ=aq cs[o]? fun v=>κ v h:=by
 show aq (lB cs o) _=_
 rw [cV]
theorem kV (n b o:Nat):aO n (.pto b o) h κ=aq (aa h b) fun B=>va B (fun cs _=>bq (decide (o+n≤cs.length)) (κ (.agg ((cs.drop o).take n)) h) none) (fun z ll _=>agt n κ h o z ll):=by
 show dZ h b (fun cs _=>nI n κ h o cs) _=_
 unfold dZ nI hO
 simp only [aK,bc,bR,ah,Nat.add_eq]
theorem xO (n:Nat) (cs:List AV) (o:Nat):aO n (.ptp cs o) h κ=bq (decide (o+n≤cs.length)) (κ (.agg ((cs.drop o).take n)) h) none:=by
 show nI n κ h o cs=_
 unfold nI hO
 simp only [aK,bc,bR,ah,Nat.add_eq]
theorem tL (b o:Nat) (v:AV):bS (.pto b o) v h κ=bq v.plain (aq (aa h b) fun B=>va B (fun cs y=>aq cs[o]? fun _=>κ (.tup []) (h.set b (some (.cells (cs.set o v) y)))) (st1R v κ h b o)) none:=by
 show bq v.plain (dZ h b (anK v κ h b o) _) none=_
 unfold dZ
 simp only [show anK v κ h b o=fun cs y=>aq (lB cs o) fun _=>κ (.tup []) (bt (some (.cells (bt v cs o) y)) h b) from rfl]
 simp only [cV,cC]
theorem py (n b o:Nat) (vs:List AV):aL n (.pto b o) (.agg vs) h κ=bq (and (decide (vs.length=n)) (aV vs)) (aq (aa h b) fun B=>va B (fun cs y=>bq (decide (o+vs.length≤cs.length)) (κ (.tup []) (h.set b (some (.cells (cs.take o++(vs++cs.drop (o+vs.length))) y)))) none) (stGR n vs κ h b o)) none:=by
 show aq5 n κ h vs b o=_
 unfold aq5 dZ
 simp only [show aqu vs κ h b o=fun cs y=>bq (Nat.ble (Nat.add o (ag vs)) (ag cs)) (κ (.tup []) (bt (some (.cells (aF (b7 o cs) (aF vs (cG (Nat.add o (ag vs)) cs))) y)) h b)) none from rfl]
 simp only [ah,kB,bR,cC,aP,aK,bc,Nat.add_eq]
theorem afH:bF .nils h κ=κ (.int 9223372036854775807 0) h:=(rfl)
theorem aiq:bF .sle h κ=κ (.int 9223372036854775807 0) h:=(rfl)
theorem aqV (cs:List AV) (n:Nat):bF (.slp cs n) h κ=κ (.int 9223372036854775807 n) h:=(rfl)
theorem aqv (b o l c z:Nat) (e:Bool):bF (.slo b o l c z e) h κ=κ (.int 9223372036854775807 l) h:=(rfl)
theorem aoy (l:List Nat):aiP (.str l) h κ=κ (.int 9223372036854775807 l.length) h:=by
 show κ (.int _ (.ofNat (ag l))) h=_
 rw [ah];rfl
theorem xQ (sz:Nat) (cs:List AV) (len k i:Nat):bL sz (.slp cs len) (.int k (i:Int)) h κ=bq (decide (i<len)) (κ (.ptp cs (i*sz)) h) none:=by
 show bq (Nat.blt i len) _ _=_
 rw [uT];rfl
theorem apg (k:Nat) (a b:Int):ajC (.int k a) (.int k b) h κ=bq (decide (b≠0)) (κ (.int k (aM k (aiy a b))) h) none:=by
 show bq (and (Nat.beq k k) (not (bP b (.ofNat 0)))) _ _=_
 rw [Nat.beq_refl,zt];simp
theorem aoC (k:Nat) (n:Int):aoh (.int k n) h κ=κ (.int k (aM k (gU (.ofNat 0) n))) h:=(rfl)
theorem aia (m k:Nat) (n:Int):cvI m (.int k n) h κ=κ (.int m (aM m n)) h:=(rfl)
theorem sK (sz b o l c:Nat) (e:Bool) (k i:Nat):bL sz (.slo b o l c sz e) (.int k (i:Int)) h κ=bq (decide (i<l)) (κ (.pto b (o+i*sz)) h) none:=by
 show bq (Nat.blt i l) (bq (Nat.beq sz sz) _ _) _=_
 rw [uT,Nat.beq_refl];rfl
theorem ann (l:List Nat) (k i:Nat):aoF (.str l) (.int k (i:Int)) h κ=aq l[i]? fun b=>κ (.int 255 b) h:=by
 show aq (dD l i) _=_
 rw [bw];rfl
theorem aru (n sz b o k i:Nat):alb n sz (.pto b o) (.int k (i:Int)) h κ=bq (decide (i<n)) (κ (.pto b (o+i*sz)) h) none:=by
 show bq (Nat.blt i n) _ _=_
 rw [uT];rfl
theorem aiM (n sz:Nat) (cs:List AV) (k i:Nat):aeA n sz (.agg cs) (.int k (i:Int)) h κ=bq (decide (i<n)) (aq cs[i*sz]? fun v=>κ v h) none:=by
 show bq (Nat.blt i n) (aq (lB cs (i*sz)) _) none=_
 rw [uT,cV]
theorem aph (off:Nat) (cs:List AV):uB off (.agg cs) h κ=aq cs[off]? fun v=>κ v h:=by
 show aq (lB cs off) _=_
 rw [cV]
theorem anI (off n:Nat) (cs:List AV):tJ off n (.agg cs) h κ=bq (decide (off+n≤cs.length)) (κ (.agg ((cs.drop off).take n)) h) none:=by
 show nI n κ h off cs=_
 unfold nI hO
 simp only [aK,bc,bR,ah,Nat.add_eq]
theorem kR (i:Nat) (cs:List AV):dm i (.tup cs) h κ=aq cs[i]? fun v=>κ v h:=by
 show aq (lB cs i) _=_
 rw [cV]
theorem am6 (b o:Nat):az (.pto b o) h κ=κ (.pto b o) h:=(rfl)
theorem apa (cs:List AV) (o:Nat):az (.ptp cs o) h κ=κ (.ptp cs o) h:=(rfl)
theorem afO (a b:List Nat):yc (.str a) (.str b) h κ=bq (decide (a.length+b.length≤9223372036854775807)) (κ (.str (a++b)) h) none:=by
 show bq (Nat.ble (Nat.add (ag a) (ag b)) _) (κ (.str (aF a b)) h) none=_
 rw [bR,ah,ah,aP];rfl
theorem ae0 (g:List Nat→List Nat→Bool) (a b:List Nat):jO g (.str a) (.str b) h κ=κ (.bool (g a b)) h:=(rfl)
theorem tV (v:AV) (h':AH):aJ κ (some (v,h'))=κ v h':=(rfl)
theorem ab0:aJ κ none=none:=(rfl)
theorem abL:aV []=true:=(rfl)
theorem aaC (v:AV) (r:List AV):aV (v::r)=and v.plain (aV r):=(rfl)
theorem ahg (k:Nat) (n:Int):(AV.int k n).plain=true:=(rfl)
theorem abV (b:Bool):(AV.bool b).plain=true:=(rfl)
theorem ahC (l:List Nat):(AV.str l).plain=true:=(rfl)
theorem acI:AV.nils.plain=true:=(rfl)
theorem agG:AV.nil.plain=true:=(rfl)
theorem ahA:AV.sle.plain=true:=(rfl)
theorem agQ (cs:List AV) (n:Nat):(AV.slp cs n).plain=true:=(rfl)
theorem agK (b o l c z:Nat) (e:Bool):(AV.slo b o l c z e).plain=true:=(rfl)
theorem afN (b o:Nat):(AV.pto b o).plain=true:=(rfl)
theorem ahe (cs:List AV) (o:Nat):(AV.ptp cs o).plain=true:=(rfl)
theorem arx (cs:List AV):(AV.agg cs).nb=true:=(rfl)
theorem aqa (k:Nat) (n:Int):(AV.int k n).nb=true:=(rfl)
theorem an9 (b:Bool):(AV.bool b).nb=true:=(rfl)
theorem aqH (l:List Nat):(AV.str l).nb=true:=(rfl)
theorem arO (cs:List AV) (n:Nat):(AV.slp cs n).nb=true:=(rfl)
theorem apm:AV.nils.nb=true:=(rfl)
theorem aqW:AV.sle.nb=true:=(rfl)
theorem aq2 (b o l c z:Nat) (e:Bool):(AV.slo b o l c z e).nb=true:=(rfl)
theorem agb (cs:List AV):(AV.agg cs).cells=cs:=(rfl)
theorem agd (k:Nat) (n:Int):(AV.int k n).cells=[.int k n]:=(rfl)
theorem acy (b:Bool):(AV.bool b).cells=[.bool b]:=(rfl)
theorem agV (l:List Nat):(AV.str l).cells=[.str l]:=(rfl)
theorem aH (h:AH) (x:Option Blk):aa (h++[x]) h.length=x:=by rw [bh];simp
theorem afU (x:Option Blk) (l:AH):aa (x::l) 0=x:=(rfl)
theorem afK (x:Option Blk) (l:AH) (n:Nat):aa (x::l) (n+1)=aa l n:=(rfl)
theorem ak {h:AH} {n:Nat} (hn:n<h.length) (l:AH):aa (h++l) n=aa h n:=by rw [bh,bh,List.getElem?_append_left hn]
theorem ax {h:AH} {n:Nat} (hn:n<h.length) (v:Option Blk):aa (h.set n v) n=v:=by rw [bh];simp [hn]
theorem ae {h:AH} {n m:Nat} (hn:n≠m) (v:Option Blk):aa (h.set n v) m=aa h m:=by rw [bh,bh,List.getElem?_set_ne hn]
theorem aey (h:AH) (x v:Option Blk):(h++[x]).set h.length v=h++[v]:=by
 rw [List.set_append_right _ _ (Nat.le_refl _)];simp
theorem aI {h:AH} {n:Nat} {b:Blk} (e:aa h n=some b):n<h.length:=cr (by rw [e];simp)
theorem ap9 (k:Nat) (cs:List AV):(AV.agg cs).lt k=ltL k cs:=(rfl)
theorem aqE (k:Nat) (cs:List AV):(AV.tup cs).lt k=ltL k cs:=(rfl)
theorem ark (k m:Nat) (n:Int):(AV.int m n).lt k=true:=(rfl)
theorem anx (k:Nat) (b:Bool):(AV.bool b).lt k=true:=(rfl)
theorem arC (k:Nat) (l:List Nat):(AV.str l).lt k=true:=(rfl)
theorem aom (k:Nat):AV.nils.lt k=true:=(rfl)
theorem aqU (k:Nat):AV.sle.lt k=true:=(rfl)
theorem aqS (k:Nat):AV.nil.lt k=true:=(rfl)
theorem aqK (k:Nat) (cs:List AV) (n:Nat):(AV.slp cs n).lt k=true:=(rfl)
theorem arz (k:Nat) (cs:List AV) (n:Nat):(AV.ptp cs n).lt k=true:=(rfl)
theorem ga (k b o:Nat):(AV.pto b o).lt k=decide (b<k):=uT b k
theorem xi (k b o l c z:Nat) (e:Bool):(AV.slo b o l c z e).lt k=decide (b<k):=uT b k
theorem abO {f:Nat} {args:List AV} {v:AV} (hx:C.ext f=none) (hp:ltL 0 args=true) (hm:C.qe f args=some v) (ho:C.own f=false:=by kernel_rfl):aE C run f args h=some (v,h):=by
 unfold aE
 rw [hx,ho,hp,hm];rfl
theorem aaT {f:Nat} {args:List AV} {r:AV} {h1:AH} (hx:C.ext f=none) (hp:ltL 0 args=true) (hm:C.qe f args=none) (hr:run f args []=some (r,h1)) (hl:r.lt 0=true) (ho:C.own f=false:=by kernel_rfl):aE C run f args h=some (r,h):=by
 unfold aE
 rw [hx,ho,hp,hm,hr]
 show bq true (aq (some (r,h1)) (kK C f h)) _=_
 rw [au,aS]
 unfold kK
 rw [hl];rfl
theorem p9 {f:Nat} {args:List AV} {g:List AV→AH→Option (AV×AH)} (hx:C.ext f=some g):aE C run f args h=g args h:=by
 unfold aE
 rw [hx]
theorem arS (n:Nat):(rl C (n+1)).run=cP C (rl C n).run (rl C n).lp:=(rfl)
theorem as2 (n:Nat) (b:K) (s:St):(rl C (n+1)).lp b s=aq (kx C (rl C n).run (rl C n).lp b s) (sC ((rl C n).lp b)):=(rfl)
end
end Go.Proofs.YteapfopaiocpeaaGreatDoor
namespace Go.Proofs.YteapfopaiocpeaaGreatDoor
set_option linter.unusedSimpArgs false
set_option linter.unusedVariables false
set_option linter.unnecessarySimpa false
open Go.RowKit
section
variable {H:Type} {enc:TypeId×Value→H}
theorem xm {a:Assume} {C:Checked} {os:Os} {f:FuncId} {fn:Func} {s:ChangeSpec} {conds:List PathCond} {apart fresh handsOn again:Bool} {X:World→Array Value→Prop}
 (hX: ∀(w w':World) (args:Array Value),w.heap=w'.heap→X w args→X w' args)
 (own:ownKnob C.prog.godebug=none) (started:os.Started) (noInit:C.prog.inits.idxOf? f=none) (hfn:C.prog.funcs[f]? =some fn)
 (witness: ∃(w:World) (tape:Tape) (i:Input),w.os=os∧(w.forCall tape i).Shaped C.prog∧i.vars=[]∧Input.okWide C.prog (w.forCall tape i) .any w.heap.size f i∧
  ((s.pre enc C.prog fn conds apart (w.forCall tape i).memory i.args∧X (w.forCall tape i).memory i.args)∧sizedMet enc C.prog fn (OpenSpec.ofChange s) apart (w.forCall tape i).memory i.args)∧a.holds C.prog (lone (Frame.enter C.prog f i.args .normal) [] (w.forCall tape i)))
 (contract: ∀(W:World) (base:Nat) (args:Array Value) (ds gs:List (DataW H)) (before:List MemPlace),
  (∀(j:Nat) t v,fn.params[j]? =some t→args[j]? =some v→Value.okWide C.prog W .any base t v)→
  DataW.Whole enc C.prog fn.params.toList s.vars apart W args.toList ds gs before→
  X W args→W.ShapedOpen C.prog→
  Calls C.prog f args W fun e W'=>∃v,e= .returned v∧s.post enc C.prog fn apart fresh handsOn again W args v W'):
 ReturnsInHanded a C os f .any (fun w args=>(s.pre enc C.prog fn conds apart w args∧X w args)∧sizedMet enc C.prog fn (OpenSpec.ofChange s) apart w args) (s.post enc C.prog fn apart fresh handsOn again):=by
 refine returnsInHanded_of_calls own started noInit witness ?_
 intro w tape i _ hsh _ hok hpre hholds
 obtain ⟨_,_,_,fn',hfn',_,_,_,_,hval⟩:=hok
 have e:fn'=fn:=Option.some.inj (hfn'.symm.trans hfn)
 subst e
 obtain ⟨⟨⟨ds,gs,before,hw,hc⟩,hx⟩,hz⟩:=hpre
 have hw':=DataW.Whole.of_heap (w':=w.forCall tape i) (by rfl) hw
 refine (contract (w.forCall tape i) w.heap.size i.args ds gs before hval hw' (hX _ _ _ (by rfl) hx) hsh).mono fun e W' ⟨v,he,hp⟩=>?_
 subst he
 exact ChangeSpec.post_blind hp
end
def TyV (P:Program) (n:Nat) (t:TypeId) (a:AV):Prop:=match P.underlying t with
 |some (.struct _)|some (.array _ _)=>∃as,a= .agg as∧TyC P n t as
 |_=>TyC P n t [a]
theorem aqR {H:Type} {enc:TypeId×Value→H} {P:Program} (hl:laidOutB P=true) {ts:List TypeId} (hc:rY P ts=true) {W:World} {base:Nat} {spare:Nat→Bool} {b:Nat} {t:TypeId} {v:Value} {d:DataW H} {p:List MemPlace}
 (ht:t∈ts) (hok:Value.okWide P W .any base t v) (h:DataW.Trod enc P W b spare true t v d p) (hp: ∀x∈p,x.block<W.heap.size): ∃n a,V (· <W.heap.size) W a ρ0 v∧TyV P n t a:=by
 obtain ⟨n,hn⟩:=h
 obtain ⟨as,h1,h2⟩:=apq hl hc n t _ _ ht hn hp
 have hr:=tR hc ht
 unfold oO at hr
 rw [Bool.and_eq_true] at hr
 have scal: ∀v:Value,v.cells= #[v]→VL (· <W.heap.size) W as ρ0 v.cells.toList→ ∃a,as=[a]∧V (· <W.heap.size) W a ρ0 v:=by
  intro v hv h
  rw [hv] at h
  match as,h with
  |[],h=>simp [VL] at h
  |a::r,h=>
   simp only [VL,List.cons.injEq] at h
   obtain ⟨u,r',⟨rfl,rfl⟩,g1,g2⟩:=h
   match r,g2 with
   |[],_=>exact ⟨a,rfl,g1⟩
   |_::_,g=>simp [VL] at g
 unfold TyV
 cases hu:P.underlying t with
 |none=>rw [hu] at hr;cases hr.2
 |some D=>
  rw [hu] at hr
  cases D with
  |bool=>
   obtain ⟨x,rfl⟩:=Go.WideShapes.okWide_bool hu hok
   obtain ⟨a,rfl,g⟩:=scal _ rfl h1
   exact ⟨n,a,g,h2⟩
  |int k=>
   obtain ⟨x,rfl⟩:=Go.WideShapes.okWide_int hu hok
   obtain ⟨a,rfl,g⟩:=scal _ rfl h1
   exact ⟨n,a,g,h2⟩
  |string=>
   obtain ⟨x,rfl⟩:=Go.WideShapes.okWide_string hu hok
   obtain ⟨a,rfl,g⟩:=scal _ rfl h1
   exact ⟨n,a,g,h2⟩
  |slice e=>
   obtain ⟨x,l,c,rfl⟩:=Go.WideShapes.okWide_slice hu hok
   obtain ⟨a,rfl,g⟩:=scal _ rfl h1
   exact ⟨n,a,g,h2⟩
  |struct fs=>
   obtain ⟨cs,rfl,_⟩:=Go.WideShapes.okWide_struct hu hok
   exact ⟨n,.agg as,by simp only [V];exact ⟨cs,rfl,h1⟩,as,rfl,h2⟩
  |array m e=>
   have: ∃cs,v= .agg cs:=by
    unfold Value.okWide at hok
    rw [hu] at hok
    obtain ⟨cs,h,_⟩:=hok
    exact ⟨cs,h⟩
   obtain ⟨cs,rfl⟩:=this
   exact ⟨n,.agg as,by simp only [V];exact ⟨cs,rfl,h1⟩,as,rfl,h2⟩
  |_=>cases hr.2
section
variable {P:Program} {n:Nat} {t:TypeId} {as:List AV}
theorem TyC.aqz {k:IntKind} (hu:P.underlying t=some (.int k)) (h:TyC P n t as): ∃x,as=[.int (cL k) x]∧(Lit.int k x).wf=true:=by
 cases n with
 |zero=>exact h.elim
 |succ n=>have:=h.2;rw [hu] at this;exact this
theorem TyC.aa8 {e:TypeId} (hu:P.underlying t=some (.slice e)) (h:TyC P n t as):as=[.nils]∨as=[.sle]∨ ∃m cs len,as=[.slp cs len]∧0<len∧len≤maxLen∧TyL (TyC P m) (List.replicate len e) cs:=by
 cases n with
 |zero=>exact h.elim
 |succ n=>
  have:=h.2
  rw [hu] at this
  rcases this with h|h|⟨cs,len,h1,h2,h3,h4⟩
  ·exact .inl h
  ·exact .inr (.inl h)
  ·exact .inr (.inr ⟨n,cs,len,h1,h2,h3,h4⟩)
theorem TyC.one (hu:P.cellsOf t=1) (h:TyC P n t as): ∃c,as=[c]:=by
 have:=h.len
 rw [hu] at this
 match as,this with
 |[c],_=>exact ⟨c,rfl⟩
theorem ado (k:Nat): ∀(a b:List AV),ltL k (a++b)=and (ltL k a) (ltL k b)
 |[],b=>by simp [xG]
 |x::a,b=>by rw [List.cons_append,jT,jT,ado k a b,Bool.and_assoc]
theorem TyL.lt {T:TypeId→List AV→Prop} (hT: ∀t as,T t as→ltL 0 as=true): ∀{ts:List TypeId} {as:List AV},TyL T ts as→ltL 0 as=true
 |[],as,h=>by rw [show as=[] from h];rfl
 |t::ts,as,h=>by
  obtain ⟨a,r,rfl,h1,h2⟩:=h
  rw [ado,hT t a h1,TyL.lt hT h2];rfl
theorem TyC.lt: ∀{n:Nat} {t:TypeId} {as:List AV},TyC P n t as→ltL 0 as=true
 |0,_,_,h=>h.elim
 |n+1,t,as,h=>by
  have h:=h.2
  split at h
  ·obtain ⟨b,rfl⟩:=h;rfl
  ·obtain ⟨b,rfl,_⟩:=h;rfl
  ·obtain ⟨b,rfl,_⟩:=h;rfl
  ·exact TyL.lt (fun _ _ h=>TyC.lt h) h
  ·exact TyL.lt (fun _ _ h=>TyC.lt h) h
  ·rcases h with rfl|rfl|⟨cs,len,rfl,_⟩<;>rfl
  ·exact h.elim
theorem TyV.agg {fs:Array Field} {a:AV} (hu:P.underlying t=some (.struct fs)) (h:TyV P n t a): ∃as,a= .agg as∧TyC P n t as:=by
 unfold TyV at h;rw [hu] at h;exact h
theorem TyV.aqz {k:IntKind} {a:AV} (hu:P.underlying t=some (.int k)) (h:TyV P n t a): ∃x,a= .int (cL k) x∧(Lit.int k x).wf=true:=by
 unfold TyV at h;rw [hu] at h
 obtain ⟨x,h1,h2⟩:=TyC.aqz hu h
 cases h1
 exact ⟨x,rfl,h2⟩
theorem TyV.aa8 {e:TypeId} {a:AV} (hu:P.underlying t=some (.slice e)) (h:TyV P n t a):a= .nils∨a= .sle∨ ∃m cs len,a= .slp cs len∧0<len∧len≤maxLen∧TyL (TyC P m) (List.replicate len e) cs:=by
 unfold TyV at h;rw [hu] at h
 rcases TyC.aa8 hu h with h|h|⟨m,cs,len,h1,h2⟩
 ·cases h;exact .inl rfl
 ·cases h;exact .inr (.inl rfl)
 ·cases h1;exact .inr (.inr ⟨m,cs,len,rfl,h2⟩)
end
theorem xR {P:Program} {C:Cx} {F:Nat} {as:List AV} {h':AH} (R:hJ P C F as [] (.bool true) h') {W:World} {args:Array Value} (I:Inv C (· <W.heap.size) W ρ0 []) (hv:VL (· <W.heap.size) W as ρ0 args.toList):
 Calls P F args W fun e w'=>e= .returned (.bool true)∧Below W.heap.size W w':=by
 have:=R.2 _ W ρ0 args.toList I hv
 rw [Array.toArray_toList] at this
 refine this.mono fun e w' ⟨u,ok',ρ',he,E,_,hV⟩=>?_
 simp only [V] at hV
 subst hV
 exact ⟨he,E.os,E.tape,E.output,E.size,fun k hk=>E.keep k hk fun n hn=>absurd (by simp [bh]) hn⟩
theorem agc {P:Program} {W:World} {g t:Nat} {cs:Array Value} {fuel n e:Nat} {k:IntKind} {zs:List Int} {p:List MemPlace} {nm:String} (hg:P.globalNamed nm=some g) (hv:W.var? P nm=some cs)
 (hu:P.underlying t=some (.array n e)) (he:P.underlying e=some (.int k)) (c1:P.cellsOf e=1) (hz:zs.length=n) {d:DataW Unit} (ed:d= .agg (zs.map fun n=>.lit (.int k n)))
 (hd:DataW.trod (fun _=>()) P W 0 (fun _=>true) false fuel t cs.toList=some (d,p)): ∀r (h:r<zs.length),W.cell? ⟨g,r,none⟩=some (.int k zs[r]):=by
 intro r hr
 subst ed
 obtain ⟨xs,m,_,ex,_,hl,hel⟩:=DataW.trod_array hu hd
 have hE:=hel r (by omega)
 rw [c1,Nat.mul_one,List.getElem?_eq_getElem (by omega)] at hE
 obtain ⟨z,e1,e2,_⟩:=DataW.trod_int he hE
 have e3:(xs.map (·.1))=zs.map fun n=>.lit (.int k n):=(DataW.agg.inj (Prod.mk.inj ex).1).symm
 have e4:(xs.map (·.1))[r]? =(zs.map fun n=>(DataW.lit (.int k n):DataW Unit))[r]? :=by rw [e3]
 rw [List.getElem?_map,List.getElem?_map,List.getElem?_eq_getElem (by omega:r<xs.length),List.getElem?_eq_getElem hr,e2] at e4
 have hz:z=zs[r]:=by simpa using e4
 rw [World.var?_cell hg hv r,←hz]
 have:cs.toList[r]? =some (.int k z):=by
  have h0:((cs.toList.drop r).take 1)[0]? =some (.int k z):=by rw [e1];rfl
  simpa using h0
 simpa using this
theorem aes {ok:Nat→Prop} {w:World} {ρ:Rho} {g:Nat} {k:IntKind}: ∀{zs:List Int} {p:Nat},(∀r (h:r<zs.length),w.cell? ⟨g,p+r,none⟩=some (.int k zs[r]))→VAt ok w (zs.map fun n=>.int (cL k) n) ρ g p
 |[],_,_=>by simp only [List.map_nil,VAt]
 |z::zs,p,h=>by
  simp only [List.map_cons,VAt]
  refine ⟨⟨.int k z,h 0 (by simp),by simp only [V];exact ⟨k,rfl,rfl⟩⟩,aes fun r hr=>?_⟩
  have:=h (r+1) (by simpa using hr)
  rw [show p+1+r=p+(r+1) by omega]
  simpa using this
end Go.Proofs.YteapfopaiocpeaaGreatDoor
namespace Go.Proofs.YteapfopaiocpeaaGreatDoor
set_option linter.unusedSimpArgs false
set_option linter.unusedVariables false
set_option linter.unnecessarySimpa false
section
variable {C:Cx} {run:Run} {lp:Lp} {s:St} {h:AH} {κ:Ka}
theorem bqT {α:Type} (a b:α):bq true a b=a:=(rfl)
theorem bqF {α:Type} (a b:α):bq false a b=b:=(rfl)
theorem aqY {α β:Type} (f:α→Option β):aq none f=none:=(rfl)
theorem uK {α β:Type} (a:α) (f:α→Option β):aq (some a) f=f a:=(rfl)
theorem bE {m a:Nat} (h:a≤m):aM m (a:Int)=(a:Int):=by
 show bq (Nat.ble a m) (Int.ofNat a) _=_
 rw [bR,bz h];rfl
theorem jz {t a:Nat} (h:a≤t):toU t (a:Int)=a:=by
 show bq (Nat.ble a t) a (Nat.land a t)=a
 rw [bR,bz h]
theorem adf {t:Nat} {a:Int} (h0:0≤a) (h:a≤t):toU t a=a.toNat:=by
 obtain ⟨n,rfl⟩: ∃n:Nat,a=n:=⟨a.toNat,by omega⟩
 exact jz (by omega)
theorem oT (m t:Nat) (g:Nat→Nat→Nat) (a b:Int):lE m t g (.int m a) (.int m b) h κ=κ (.int m (aM m ((g (toU t a) (toU t b):Nat):Int))) h:=by
 show bq (Nat.beq m m) (bq (Nat.beq m m) _ none) none=_
 rw [Nat.beq_refl];rfl
theorem aez {m w k:Nat} (a:Nat) {s:Int} (h0:0≤s) (hs:s≤w):pO m w (.int m (a:Int)) (.int k s) h κ=κ (.int m ((a/2^s.toNat:Nat):Int)) h:=by
 obtain ⟨n,rfl⟩: ∃n:Nat,s=n:=⟨s.toNat,by omega⟩
 show bq (Nat.beq m m) (κ (.int m (.ofNat (a/2^(nE n w)))) h) none=_
 rw [Nat.beq_refl,au]
 unfold nE
 rw [bR,bz (by omega)];rfl
theorem aeI {m w k:Nat} (a:Int) {s:Int} (h0:0≤s) (hs:s≤w):zq m w (.int m a) (.int k s) h κ=κ (.int m (aM m (a*((2^s.toNat:Nat):Int)))) h:=by
 obtain ⟨n,rfl⟩: ∃n:Nat,s=n:=⟨s.toNat,by omega⟩
 show bq (Nat.beq m m) (κ (.int m (aM m (pV a (.ofNat (2^(nE n w)))))) h) none=_
 rw [Nat.beq_refl,au,apL]
 unfold nE
 rw [bR,bz (by omega)];rfl
theorem min_eq (k:Nat) (a b:Int):iQ false (.int k a) (.int k b) h κ=κ (.int k (min a b)) h:=by
 show bq (Nat.beq k k) (κ (.int k (bq (uo b a) b a)) h) none=_
 rw [Nat.beq_refl,au,vI]
 by_cases e:b<a
 ·rw [bz e];congr 2;omega
 ·rw [iN e];congr 2;omega
theorem max_eq (k:Nat) (a b:Int):iQ true (.int k a) (.int k b) h κ=κ (.int k (max a b)) h:=by
 show bq (Nat.beq k k) (κ (.int k (bq (uo a b) b a)) h) none=_
 rw [Nat.beq_refl,au,vI]
 by_cases e:a<b
 ·rw [bz e];congr 2;omega
 ·rw [iN e];congr 2;omega
theorem aj4 (b w:Bool) (f:Ka→Option Rs):ar (.bool b) w f h κ=bq (nF b w) (f κ) (κ (.tup []) h):=(rfl)
theorem ajH (w:Bool) (f:Ka→Option Rs):ar (.tup []) w f h κ=κ (.tup []) h:=by cases w<;>rfl
theorem aoQ:nF true true=true:=(rfl)
theorem anO:nF true false=false:=(rfl)
theorem anw:nF false true=false:=(rfl)
theorem ao1:nF false false=true:=(rfl)
theorem afS (k:Nat) (a b:Int):jf 1 2 [.int k 0] [(0,.int k a),(1,.int k b)] h κ=κ (.slo h.length 0 2 2 1 true) (h++[some (.cells [.int k a,.int k b] 0)]):=by
 have e:jf 1 2 [.int k 0] [(0,.int k a),(1,.int k b)] h κ=κ (.slo (ag h) 0 2 2 1 true) (aF h [some (.cells [.int k a,.int k b] 0)]):=by kernel_rfl
 rw [e,ah,aP]
theorem uy: ∀l:List Nat,eqS l l=true
 |[]=>rfl
 |a::r=>by show bq (Nat.beq a a) (eqS r r) false=true;rw [Nat.beq_refl,au,uy r]
theorem gm (v:AV):AV.same v v=true:=by
 refine AV.rec (motive_1:=fun v=>AV.same v v=true) (motive_2:=fun l=>AV.same (.agg l) (.agg l)=true) ?_ ?_ ?_ ?_ ?_ ?_ ?_ ?_ ?_ ?_ ?_ ?_ ?_ ?_ ?_ ?_ ?_ ?_ ?_ ?_ ?_ v
 ·rfl
 ·intro b;cases b<;>rfl
 ·intro k n;show and (Nat.beq k k) (bP n n)=true;rw [Nat.beq_refl,zt];simp
 ·intro l;exact uy l
 ·rfl
 ·intro b o;show and (Nat.beq b b) (Nat.beq o o)=true;rw [Nat.beq_refl,Nat.beq_refl];rfl
 ·intro c o ih;show and (Nat.beq o o) (AV.same (.agg c) (.agg c))=true;rw [Nat.beq_refl,ih];rfl
 ·rfl
 ·intro b o l c z e;show and (and (and (Nat.beq b b) (Nat.beq o o)) (and (Nat.beq l l) (Nat.beq c c))) (and (Nat.beq z z) (nF e e))=true;simp only [Nat.beq_refl];cases e<;>rfl
 ·intro c n ih;show and (Nat.beq n n) (AV.same (.agg c) (.agg c))=true;rw [Nat.beq_refl,ih];rfl
 ·rfl
 ·rfl
 ·intro b;exact Nat.beq_refl b
 ·intro a c ia ic;show and (AV.same (.agg a) (.agg a)) (AV.same (.agg c) (.agg c))=true;rw [ia,ic];rfl
 ·rfl
 ·intro f a c ia ic;show and (Nat.beq f f) (and (AV.same (.agg a) (.agg a)) (AV.same (.agg c) (.agg c)))=true;rw [Nat.beq_refl,ia,ic];rfl
 ·rfl
 ·intro c ih;exact ih
 ·intro c ih;exact ih
 ·rfl
 ·intro a r ia ir;show and (AV.same a a) (AV.same (.agg r) (.agg r))=true;rw [ia,ir];rfl
theorem qY: ∀l:List (List AV),mG l l=true
 |[]=>rfl
 |x::a=>by show and (AV.same (.agg x) (.agg x)) (mG a a)=true;rw [gm,qY a];rfl
theorem xg (b:Blk):oY b b=true:=by
 cases b with
 |cells x y=>show and (Nat.beq y y) (AV.same (.agg x) (.agg x))=true;rw [Nat.beq_refl,gm];rfl
 |map x y=>show and (AV.same (.agg x) (.agg x)) (AV.same (.agg y) (.agg y))=true;rw [gm,gm];rfl
 |rows z x y=>show and (and (Nat.beq z z) (Nat.beq y y)) (mG x x)=true;rw [Nat.beq_refl,Nat.beq_refl,qY];rfl
theorem kE: ∀h:AH,fW h h=true
 |[]=>rfl
 |none::a=>kE a
 |some x::a=>by show and (oY x x) (fW a a)=true;rw [xg,kE a];rfl
theorem cR (h:AH):cu (ag h) h=h:=by
 unfold cu
 rw [ah,aK,List.take_length,aP,iB]
 simp
end
noncomputable section
def ckX (h:AH) (k:AV→Option Rs) (x:AV×AH):Option Rs:=bq (and (fW x.2 h) (AV.lt (ag h) x.1)) (k x.1) none
end
section
variable {C:Cx} {run:Run} {lp:Lp} {s:St} {h:AH} {κ:Ka}
theorem tQ {α:Type} {f:α→Bool}: ∀{l:List α},fM f l=true↔ ∀a∈l,f a=true
 |[]=>by simp [fM]
 |a::r=>by
  show and (f a) (fM f r)=true↔_
  rw [Bool.and_eq_true,tQ];simp
theorem aps (v:AV) (h:AH):vhO (kVH v h)=some (v,h):=(rfl)
theorem ahK (k:AV→Option Rs) (v:AV):ckX h k (v,h)=bq (AV.lt (ag h) v) (k v) none:=by
 unfold ckX
 rw [kE,Bool.true_and]
theorem aix {f:Nat} {args:List AV} {r:AV} {h1:AH} (hx:C.ext f=none) (ho:C.own f=true) (ht:C.tr f=false) (hr:run f args h=some (r,h1)):aE C run f args h=some (r,h1):=by
 unfold aE
 rw [hx,ho,hr]
 show aaD C f (ag h) (r,h1)=_
 unfold aaD
 rw [ht];rfl
end
noncomputable section
end
section
variable {C:Cx} {run:Run} {kr:Kr} {q c id it:Nat} {ent:List OK} {fl1:List (Nat×Nat)} {t:Tms} {h:AH}
theorem oz: ∀t:Tm,iR t t=true
 | .nl=>rfl
 | .lf k v=>by show and (Nat.beq k k) (AV.same v v)=true;rw [Nat.beq_refl,gm];rfl
 | .nd m a b=>by show and (Nat.beq m m) (and (iR a a) (iR b b))=true;rw [Nat.beq_refl,oz a,oz b];rfl
end
theorem dI {place:Nat→Option (Nat×Nat)} {z cs:List AV} {ps:List (Nat×AV)} {h:AH} {κ:Ka} (e:yV place z ps=some cs):gD place z ps h κ=κ (.agg cs) h:=by
 unfold gD
 rw [e];rfl
theorem cT {n y:Nat} {Z E:List AV} {h:AH} {κ:Ka} (hZ:Z.length=n) (hE:E.length=n) (hp:aV E=true):aL n (.pto h.length 0) (.agg E) (h++[some (.cells Z y)]) κ=κ (.tup []) (h++[some (.cells E y)]):=by
 rw [py,hE,hp,decide_eq_true rfl]
 show bq true _ none=_
 rw [au,aH,aS,uw,Nat.zero_add,decide_eq_true (Nat.le_of_eq hZ.symm),au,aey,List.drop_eq_nil_of_le (by omega)]
 simp
theorem uG: ∀(a b:List AV),aV (a++b)=and (aV a) (aV b)
 |[],b=>rfl
 |x::a,b=>by
  show and x.plain (aV (a++b))=and (and x.plain (aV a)) (aV b)
  rw [uG a b,Bool.and_assoc]
theorem TyL.aV {T:TypeId→List AV→Prop} (hT: ∀t as,T t as→aV as=true): ∀{ts:List TypeId} {as:List AV},TyL T ts as→Go.Proofs.YteapfopaiocpeaaGreatDoor.aV as=true
 |[],as,h=>by rw [show as=[] from h];rfl
 |t::ts,as,h=>by
  obtain ⟨a,r,rfl,h1,h2⟩:=h
  rw [uG,hT t a h1,TyL.aV hT h2];rfl
theorem TyC.aV {P:Program}: ∀{n:Nat} {t:TypeId} {as:List AV},TyC P n t as→Go.Proofs.YteapfopaiocpeaaGreatDoor.aV as=true
 |0,_,_,h=>h.elim
 |n+1,t,as,h=>by
  have h2:=h.2
  split at h2
  ·obtain ⟨b,rfl⟩:=h2;rfl
  ·obtain ⟨x,rfl,_⟩:=h2;rfl
  ·obtain ⟨l,rfl,_⟩:=h2;rfl
  ·exact TyL.aV (fun t as h=>TyC.aV h) h2
  ·exact TyL.aV (fun t as h=>TyC.aV h) h2
  ·rcases h2 with rfl|rfl|⟨cs,len,rfl,_⟩<;>rfl
  ·exact h2.elim
noncomputable section
def ckN (k:AV→Option Rs) (x:AV×AH):Option Rs:=k x.1
def ckE (h:AH) (k:AV→AH→Option Rs) (x:AV×AH):Option Rs:=bq (Nat.ble (ag h) (ag x.2)) (k x.1 x.2) none
end
section
variable {C:Cx} {run:Run} {lp:Lp} {s:St} {h:AH} {κ:Ka}
theorem aqN (k:AV→Option Rs) (v:AV) (h':AH):ckN k (v,h')=k v:=(rfl)
theorem aqe (k:AV→AH→Option Rs) (v:AV) (h':AH):ckE h k (v,h')=bq (decide (h.length≤h'.length)) (k v h') none:=by
 unfold ckE
 rw [bR,ah,ah]
end
end Go.Proofs.YteapfopaiocpeaaGreatDoor
namespace Go.Proofs.YteapfopaiocpeaaGreatDoor
set_option linter.unusedSimpArgs false
set_option linter.unusedVariables false
set_option linter.unnecessarySimpa false
section
variable {C:Cx} {run:Run} {lp:Lp} {s:St} {h:AH} {κ:Ka}
def Fr (m:Nat) (h h':AH):Prop:=h.length≤h'.length∧ ∀i,i<m→aa h' i=aa h i
theorem Fr.refl (m:Nat) (h:AH):Fr m h h:=⟨Nat.le_refl _,fun _ _=>rfl⟩
theorem Fr.trans {m:Nat} {a b c:AH} (x:Fr m a b) (y:Fr m b c):Fr m a c:=⟨Nat.le_trans x.1 y.1,fun i hi=>(y.2 i hi).trans (x.2 i hi)⟩
theorem Fr.mono {m n:Nat} {a b:AH} (x:Fr m a b) (h:n≤m):Fr n a b:=⟨x.1,fun i hi=>x.2 i (by omega)⟩
theorem Fr.push {m:Nat} {h:AH} (hm:m≤h.length) (x:AH):Fr m h (h++x):=⟨by simp,fun i hi=>ak (by omega) x⟩
theorem Fr.set {m n:Nat} {h:AH} (hm:m≤n) (x:Option Blk):Fr m h (h.set n x):=⟨by simp,fun i hi=>by rw [bh,bh,List.getElem?_set_ne (by omega)]⟩
def cY (h:AH) (v:AV) (cs:List AV):Prop:=
 (cs=[]∧(v= .nils∨v= .sle))∨(∃row,v= .slp row cs.length∧row.take cs.length=cs)∨ ∃b o n row y e,v= .slo b o cs.length n 1 e∧aa h b=some (.cells row y)∧(row.drop o).take cs.length=cs∧o+cs.length≤row.length
theorem alr {α:Type} {row cs:List α} (h:row.take cs.length=cs):cs.length≤row.length:=by
 have:=congrArg List.length h
 rw [List.length_take] at this
 omega
theorem cY.pc {v:AV} {cs:List AV} (r:cY h v cs):pc v=some cs.length:=by
 rcases r with ⟨rfl,rfl|rfl⟩|⟨row,rfl,_⟩|⟨b,o,n,row,y,e,rfl,_⟩<;>rfl
theorem cY.bF {v:AV} {cs:List AV} (r:cY h v cs) (h':AH) (κ:Ka):bF v h' κ=κ (.int 9223372036854775807 (cs.length:Int)) h':=by
 rcases r with ⟨rfl,rfl|rfl⟩|⟨row,rfl,_⟩|⟨b,o,n,row,y,e,rfl,_⟩<;>rfl
theorem cY.plain {v:AV} {cs:List AV} (r:cY h v cs):v.plain=true:=by
 rcases r with ⟨rfl,rfl|rfl⟩|⟨row,rfl,_⟩|⟨b,o,n,row,y,e,rfl,_⟩<;>rfl
theorem cY.nb {v:AV} {cs:List AV} (r:cY h v cs):v.nb=true:=by
 rcases r with ⟨rfl,rfl|rfl⟩|⟨row,rfl,_⟩|⟨b,o,n,row,y,e,rfl,_⟩<;>rfl
theorem cY.cells {v:AV} {cs:List AV} (r:cY h v cs):v.cells=[v]:=by
 rcases r with ⟨rfl,rfl|rfl⟩|⟨row,rfl,_⟩|⟨b,o,n,row,y,e,rfl,_⟩<;>rfl
theorem cY.lt {v:AV} {cs:List AV} (r:cY h v cs):v.lt (ag h)=true:=by
 rcases r with ⟨rfl,rfl|rfl⟩|⟨row,rfl,_⟩|⟨b,o,n,row,y,e,rfl,hb,_⟩
 ·rfl
 ·rfl
 ·rfl
 ·rw [xi,ah];exact decide_eq_true (cr (by rw [hb];simp))
theorem cY.up {v:AV} {cs:List AV} {h':AH} (r:cY h v cs) (f:Fr h.length h h'):cY h' v cs:=by
 rcases r with r|r|⟨b,o,n,row,y,e,rfl,hb,hc,hd⟩
 ·exact .inl r
 ·exact .inr (.inl r)
 ·exact .inr (.inr ⟨b,o,n,row,y,e,rfl,by rw [f.2 b (cr (by rw [hb];simp))];exact hb,hc,hd⟩)
theorem cY.elems {v:AV} {cs:List AV} (r:cY h v cs):dJ h 1 cs.length v=some cs:=by
 rcases r with ⟨rfl,rfl|rfl⟩|⟨row,rfl,hr⟩|⟨b,o,n,row,y,e,rfl,hb,hr,hd⟩
 ·rfl
 ·rfl
 ·show bq (Nat.ble (Nat.mul cs.length 1) (ag row)) (some (b7 (Nat.mul cs.length 1) row)) none=_
  have:=alr hr
  rw [bR,ah,aK,show Nat.mul cs.length 1=cs.length from Nat.mul_one _,bz this,hr]
 ·unfold dJ
  simp only [hb]
  show bq (Nat.ble (Nat.add o (Nat.mul cs.length 1)) (ag row)) (some (b7 (Nat.mul cs.length 1) (cG o row))) none=_
  rw [bR,ah,aK,bc,show Nat.mul cs.length 1=cs.length from Nat.mul_one _,hr]
  exact bz hd _ _
theorem cY.idx {v:AV} {cs:List AV} (r:cY h v cs) {i:Nat} {c:AV} (hc:cs[i]? =some c):
 ∃p,AV.lt (ag h) p=true∧(∀(k:Nat) (κ:Ka),bL 1 v (.int k (i:Int)) h κ=κ p h)∧ ∀(κ:Ka),ao p h κ=κ c h:=by
 have hi:i<cs.length:=(List.getElem?_eq_some_iff.1 hc).1
 rcases r with ⟨rfl,_⟩|⟨row,rfl,hr⟩|⟨b,o,n,row,y,e,rfl,hb,hr,hd⟩
 ·simp at hi
 ·refine ⟨.ptp row i,rfl,fun k κ=>?_,fun κ=>?_⟩
  ·rw [xQ,bz hi,Nat.mul_one]
  ·have:row[i]? =some c:=by
    rw [←hr,List.getElem?_take_of_lt (by omega)] at hc;exact hc
   rw [xV,this];rfl
 ·refine ⟨.pto b (o+i),?_,fun k κ=>?_,fun κ=>?_⟩
  ·rw [ga,ah];exact decide_eq_true (cr (by rw [hb];simp))
  ·rw [sK,bz hi,Nat.mul_one]
  ·have:row[o+i]? =some c:=by
    rw [←hr,List.getElem?_take_of_lt (by omega),List.getElem?_drop] at hc;exact hc
   rw [pX,hb]
   show aq row[o+i]? _=_
   rw [this];rfl
theorem ai1 (z:AV) (k:Nat) (a:Int) (h:AH) (κ:Ka):jf 1 1 [z] [(0,.int k a)] h κ=κ (.slo h.length 0 1 1 1 true) (h++[some (.cells [.int k a] 0)]):=by
 have e:jf 1 1 [z] [(0,.int k a)] h κ=κ (.slo (ag h) 0 1 1 1 true) (aF h [some (.cells [.int k a] 0)]):=by kernel_rfl
 rw [e,ah,aP]
theorem aeQ (k:Nat): ∀l:List AV,(upL k l).length=l.length
 |[]=>rfl
 |a::r=>by rw [gz,List.length_cons,aeQ k r,List.length_cons]
theorem yD (k:Nat): ∀(n:Nat) (l:List AV),upL k (l.drop n)=(upL k l).drop n
 |0,_=>rfl
 |n+1,[]=>rfl
 |n+1,a::r=>by rw [gz,List.drop_succ_cons,List.drop_succ_cons,yD k n r]
theorem aaj (k:Nat): ∀(n:Nat) (l:List AV),upL k (l.take n)=(upL k l).take n
 |0,_=>rfl
 |n+1,[]=>rfl
 |n+1,a::r=>by rw [List.take_succ_cons,gz,gz,List.take_succ_cons,aaj k n r]
theorem cY.shift {h1:AH} {v:AV} {cs:List AV} (r:cY h1 v cs) (hu: ∀k,upL k cs=cs) (h:AH):cY (h++h1.map (uU h.length)) (v.up h.length) cs:=by
 rcases r with ⟨rfl,rfl|rfl⟩|⟨row,rfl,hr⟩|⟨b,o,n,row,y,e,rfl,hb,hr,hl⟩
 ·exact .inl ⟨rfl,.inl rfl⟩
 ·exact .inl ⟨rfl,.inr rfl⟩
 ·exact .inr (.inl ⟨row,rfl,hr⟩)
 ·refine .inr (.inr ⟨b+h.length,o,n,upL h.length row,y,e,rfl,?_,?_,?_⟩)
  ·rw [←aP,cD,if_neg (by omega),Nat.add_sub_cancel,←db,aaA,hb];rfl
  ·rw [←yD,←aaj,hr,hu]
  ·rw [aeQ];exact hl
theorem cY.pure {h1:AH} {v:AV} {cs:List AV} (r:cY h1 v cs) (hl:v.lt 0=true) (h:AH):cY h v cs:=by
 rcases r with r|r|⟨b,o,n,row,y,e,rfl,_⟩
 ·exact .inl r
 ·exact .inr (.inl r)
 ·rw [xi] at hl;simp at hl
theorem Fr.shift (h h1:AH):Fr h.length h (h++h1.map (uU h.length)):=Fr.push (Nat.le_refl _) _
def gV (m:Nat) (h:AH) (v:AV) (cs:List AV):Prop:=(cs=[]∧v= .nils)∨ ∃b y e,m≤b∧v= .slo b 0 cs.length cs.length 1 e∧aa h b=some (.cells cs y)
theorem gV.at {m:Nat} {v:AV} {cs:List AV} (r:gV m h v cs):cY h v cs:=by
 rcases r with ⟨rfl,rfl⟩|⟨b,y,e,_,rfl,hb⟩
 ·exact .inl ⟨rfl,.inl rfl⟩
 ·exact .inr (.inr ⟨b,0,_,cs,y,e,rfl,hb,by simp,by simp⟩)
theorem gV.up {m:Nat} {h':AH} {v:AV} {cs:List AV} (r:gV m h v cs) (f: ∀i,m≤i→i<h.length→aa h' i=aa h i):gV m h' v cs:=by
 rcases r with r|⟨b,y,e,hm,rfl,hb⟩
 ·exact .inl r
 ·exact .inr ⟨b,y,e,hm,rfl,by rw [f b hm (aI hb)];exact hb⟩
end
end Go.Proofs.YteapfopaiocpeaaGreatDoor
namespace Go.Proofs.YteapfopaiocpeaaGreatDoor
set_option linter.unusedSimpArgs false
set_option linter.unusedVariables false
set_option linter.unnecessarySimpa false
noncomputable section
abbrev Kt:=St→Option Rs
def kcN (κn:Kt) (κx:Ex→Kt) (s:St) (e:Ex):Option Rs:=Ex.rec (motive:=fun _=>Option Rs) (κn s) (fun i=>κx (.exit i) s) (κx .ret s) e
def kcR (κn:Kt) (κx:Ex→Kt) (x:Option (Ex×St)):Option Rs:=aq x fun r=>kcN κn κx r.2 r.1
def bn (v:AV) (a b:Option Rs):Option Rs:=l9 v fun c=>bq c a b
def kcO (id:Nat) (κn:Kt) (κx:Ex→Kt) (e:Ex) (s:St):Option Rs:=Ex.rec (motive:=fun _=>Option Rs) (κn s) (fun i=>bq (Nat.beq i id) (κn s) (κx (.exit i) s)) (κx .ret s) e
def kc (C:Cx) (run:Run) (lp:Lp) (k:K):St→Kt→(Ex→Kt)→Option Rs:=
 K.rec (motive:=fun _=>St→Kt→(Ex→Kt)→Option Rs)
  (fun s κn _=>κn s)
  (fun l fl s κn _=>vd C run s.t l (fun σ h=>κn ⟨bU σ s.t fl,h⟩) [] s.h)
  (fun l pl fl s κn κx=>kcR κn κx (apu C run l pl fl s))
  (fun l1 p1 f1 l2 p2 f2 s κn κx=>kcR κn κx (akM C run l1 p1 f1 l2 p2 f2 s))
  (fun _ _ a b s κn κx=>a s (fun s=>b s κn κx) κx)
  (fun c _ _ a b s κn κx=>bn (ev C [] s.t c) (a s κn κx) (b s κn κx))
  (fun id _ b s κn κx=>b s κn (kcO id κn κx))
  (fun b _ s κn κx=>kcR κn κx (lp b s))
  (fun f p a b _ _ s κn κx=>kcR κn κx (kx C run lp (.rf f p a b) s))
  (fun pre x fl q c ent fl1 id it r _ s κn κx=>kcR κn κx (kx C run lp (.rm pre x fl q c ent fl1 id it r) s))
  (fun e s κn κx=>kcN κn κx s e)
  (fun _ _ _=>none) k
def kSub (k:K) (i:Nat):K:=
 match k with
 | .seq a b=>bq (Nat.beq i 0) a b
 | .cond _ a b=>bq (Nat.beq i 0) a b
 | .block _ b=>b
 | .loop b=>b
 | .rm _ _ _ _ _ _ _ _ _ r=>r
 |_=>.no
def kAt (p:List Nat):K→K:=List.rec (motive:=fun _=>K→K) (fun k=>k) (fun i _ ih k=>ih (kSub k i)) p
def kOf (C:Cx) (f:Nat):K:=Option.rec (motive:=fun _=>K) .no (fun F=>F.k) (cZ C f)
end
def aQ (F:Ka→Option Rs):Prop:=(∀κ,F κ=none)∨ ∃v h,∀κ,F κ=κ v h
section
variable {α:Type} {C:Cx} {run:Run} {lp:Lp} {σ:List AV} {T:Tms} {h:AH} {x y z:AV} {ds:List (Option Nat)}
theorem N0:aQ fun _=>none:=.inl fun _=>rfl
theorem N1 (v:AV) (h:AH):aQ fun κ=>κ v h:=.inr ⟨v,h,fun _=>rfl⟩
theorem Nb (c:Bool) {F G:Ka→Option Rs} (hF:aQ F) (hG:aQ G):aQ fun κ=>bq c (F κ) (G κ):=by cases c<;>assumption
theorem No (o:Option α) {F:α→Ka→Option Rs} (H: ∀a,aQ (F a)):aQ fun κ=>aq o fun a=>F a κ:=by
 cases o with
 |none=>exact N0
 |some a=>exact H a
theorem gE (x:AV) {F:Nat→Int→Ka→Option Rs} (H: ∀k n,aQ (F k n)):aQ fun κ=>cO x fun k n=>F k n κ:=by cases x<;>first|exact H _ _|exact N0
theorem apY (x:AV) {F:Bool→Ka→Option Rs} (H: ∀b,aQ (F b)):aQ fun κ=>l9 x fun b=>F b κ:=by cases x<;>first|exact H _|exact N0
theorem xy (x:AV) {F:List Nat→Ka→Option Rs} (H: ∀b,aQ (F b)):aQ fun κ=>gK x fun b=>F b κ:=by cases x<;>first|exact H _|exact N0
theorem ahd (x:AV) {F:Nat→Nat→Ka→Option Rs} {G:List AV→Nat→Ka→Option Rs} (H: ∀b o,aQ (F b o)) (H': ∀b o,aQ (G b o)):aQ fun κ=>lj x (fun b o=>F b o κ) (fun c o=>G c o κ):=by
 cases x<;>first|exact H _ _|exact H' _ _|exact N0
theorem aqO (x:AV) {F:List AV→Ka→Option Rs} (H: ∀b,aQ (F b)):aQ fun κ=>rC x fun b=>F b κ:=by cases x<;>first|exact H _|exact N0
theorem NTup (x:AV) {F:List AV→Ka→Option Rs} (H: ∀b,aQ (F b)):aQ fun κ=>adi x fun b=>F b κ:=by cases x<;>first|exact H _|exact N0
theorem aat (x:AV) {A:Ka→Option Rs} {F:Nat→Nat→Nat→Nat→Nat→Bool→Ka→Option Rs} {G:List AV→Nat→Ka→Option Rs} (HA:aQ A) (H: ∀b o l c z e,aQ (F b o l c z e)) (H': ∀b o,aQ (G b o)):
 aQ fun κ=>lh x (A κ) (fun b o l c z e=>F b o l c z e κ) (fun c o=>G c o κ):=by
 cases x<;>first|exact H _ _ _ _ _ _|exact H' _ _|exact HA|exact N0
theorem NFn (x:AV) {F:Nat→List AV→List AV→Ka→Option Rs} (H: ∀b c d,aQ (F b c d)):aQ fun κ=>ak6 x fun b c d=>F b c d κ:=by cases x<;>first|exact H _ _ _|exact N0
theorem atc (x:AV) {A:Ka→Option Rs} (HA:aQ A):aQ fun κ=>aa3 x (A κ):=by cases x<;>first|exact HA|exact N0
theorem xC (h:AH) (b:Nat) {F:List AV→Nat→Ka→Option Rs} (H: ∀cs y,aQ (F cs y)):aQ fun κ=>nV h b fun cs y=>F cs y κ:=
 No (aa h b) fun B=>by cases B<;>first|exact H _ _|exact N0
theorem aaR (h:AH) (b:Nat) {F:List AV→Nat→Ka→Option Rs} {G:Nat→List (List AV)→Nat→Ka→Option Rs} (H: ∀cs y,aQ (F cs y)) (H': ∀z ll y,aQ (G z ll y)):aQ fun κ=>dZ h b (fun cs y=>F cs y κ) (fun z ll y=>G z ll y κ):=
 No (aa h b) fun B=>by cases B<;>first|exact H _ _|exact H' _ _ _|exact N0
theorem NMap (b:Blk) {F:List AV→List AV→Ka→Option Rs} (H: ∀cs y,aQ (F cs y)):aQ fun κ=>aoo b fun cs y=>F cs y κ:=by cases b<;>first|exact H _ _|exact N0
theorem NX (x:Option (AV×AH)):aQ fun κ=>aJ κ x:=by
 rcases x with _|⟨v,h⟩
 ·exact N0
 ·exact N1 v h
theorem NV (h:AH) (v:Option AV):aQ fun κ=>pn κ h v:=No v fun v=>N1 v h
theorem af9 (i:Int) {F:Nat→Ka→Option Rs} (H: ∀b,aQ (F b)):aQ fun κ=>ve i fun b=>F b κ:=by cases i<;>first|exact H _|exact N0
theorem alv (i:Int) (n:Nat) {F:Nat→Ka→Option Rs} (H: ∀b,aQ (F b)):aQ fun κ=>inB i n fun b=>F b κ:=af9 i fun m=>Nb _ (H m) N0
theorem anV (len cap:Nat) (lo hi mx:Option AV) {F:Nat→Nat→Nat→Ka→Option Rs} (H: ∀l u m,aQ (F l u m)):aQ fun κ=>nP len cap lo hi mx fun l u m=>F l u m κ:=
 No _ fun l=>No _ fun u=>No _ fun m=>Nb _ (H l u m) N0
theorem ajM (b:Blk):aQ fun κ=>eH h b κ:=N1 _ _
theorem aeR:aQ fun κ=>ao x h κ:=ahd x (fun b o=>aaR h b (fun cs _=>NV h _) fun z ll _=>No _ fun l=>NV h _) fun c o=>NV h _
theorem adP (n:Nat):aQ fun κ=>aO n x h κ:=ahd x (fun b o=>aaR h b (fun cs _=>Nb _ (N1 _ _) N0) fun z ll _=>No _ fun l=>Nb _ (N1 _ _) (Nb _ (N1 _ _) N0)) fun c o=>Nb _ (N1 _ _) N0
theorem amX:aQ fun κ=>bS x y h κ:=ahd x (fun b o=>Nb _ (aaR h b (fun cs y=>No _ fun _=>N1 _ _) fun z ll y=>No _ fun l=>No _ fun _=>N1 _ _) N0) fun c o=>N0
theorem ah1 (n:Nat):aQ fun κ=>aL n x y h κ:=aqO y fun vs=>ahd x (fun b o=>Nb _ (aaR h b (fun cs y=>Nb _ (N1 _ _) N0) fun z ll y=>No _ fun l=>Nb _ (N1 _ _) N0) N0) fun c o=>N0
theorem anW (g:Int→Int→Int):aQ fun κ=>arith g x y h κ:=gE x fun k a=>gE y fun k' b=>Nb _ (N1 _ _) N0
theorem asM (g:Int→Int→Bool):aQ fun κ=>cmp g x y h κ:=gE x fun k a=>gE y fun k' b=>Nb _ (N1 _ _) N0
theorem asZ:aQ fun κ=>ajC x y h κ:=gE x fun k a=>gE y fun k' b=>Nb _ (N1 _ _) N0
theorem asJ:aQ fun κ=>ac4 x y h κ:=gE x fun k a=>gE y fun k' b=>Nb _ (N1 _ _) N0
theorem asf (m t:Nat) (g:Nat→Nat→Nat):aQ fun κ=>lE m t g x y h κ:=gE x fun k a=>Nb _ (gE y fun k' b=>Nb _ (N1 _ _) N0) N0
theorem ar6 (m w:Nat):aQ fun κ=>zq m w x y h κ:=gE x fun k a=>gE y fun k' b=>af9 b fun s=>Nb _ (N1 _ _) N0
theorem asO (m w:Nat):aQ fun κ=>pO m w x y h κ:=gE x fun k a=>gE y fun k' b=>af9 b fun s=>Nb _ (N1 _ _) N0
theorem atb (m:Nat):aQ fun κ=>cvI m x h κ:=gE x fun _ n=>N1 _ _
theorem atf:aQ fun κ=>aoh x h κ:=gE x fun _ n=>N1 _ _
theorem asc:aQ fun κ=>lD x h κ:=apY x fun _=>N1 _ _
theorem ass (m t:Nat):aQ fun κ=>arP m t x h κ:=gE x fun _ n=>Nb _ (N1 _ _) N0
theorem zy (m:Bool):aQ fun κ=>iQ m x y h κ:=gE x fun k a=>gE y fun k' b=>Nb _ (N1 _ _) N0
theorem alS (g:List Nat→List Nat→Bool):aQ fun κ=>jO g x y h κ:=xy x fun _=>xy y fun _=>N1 _ _
theorem ak7:aQ fun κ=>yc x y h κ:=xy x fun _=>xy y fun _=>Nb _ (N1 _ _) N0
theorem an6:aQ fun κ=>aec x h κ:=xy x fun _=>N1 _ _
theorem asu (ti:TI):aQ fun κ=>eqlA ti x y h κ:=No _ fun _=>N1 _ _
theorem atk (ti:TI):aQ fun κ=>neqA ti x y h κ:=No _ fun _=>N1 _ _
theorem aqF:aQ fun κ=>bF x h κ:=aat x (N1 _ _) (fun _ _ _ _ _ _=>N1 _ _) fun _ _=>N1 _ _
theorem arj:aQ fun κ=>aiP x h κ:=xy x fun _=>N1 _ _
theorem arE:aQ fun κ=>anz x h κ:=No _ fun _=>N1 _ _
theorem ab7:aQ fun κ=>ug x h κ:=xy x fun _=>N1 _ _
theorem aqC:aQ fun κ=>aqJ x h κ:=aat x N0 (fun b _ _ _ _ _=>xC h b fun _ _=>N1 _ _) fun _ _=>N0
theorem acF:aQ fun κ=>eW x h κ:=No _ fun _=>No _ fun _=>No _ fun _=>aat x (N1 _ _) (fun _ _ _ _ _ _=>N1 _ _) fun _ _=>N1 _ _
theorem aer (n:Nat):aQ fun κ=>aj n x h κ:=ahd x (fun _ _=>N1 _ _) fun _ _=>N1 _ _
theorem arW (n sz:Nat):aQ fun κ=>alb n sz x y h κ:=gE y fun _ i=>alv i n fun m=>aer _
theorem aql (sz:Nat):aQ fun κ=>bL sz x y h κ:=gE y fun _ i=>aat x N0 (fun b o l c z e=>alv i l fun m=>Nb _ (N1 _ _) N0) fun cs l=>alv i l fun m=>N1 _ _
theorem ap7:aQ fun κ=>aoF x y h κ:=xy x fun l=>gE y fun _ i=>af9 i fun m=>No _ fun _=>N1 _ _
theorem amA (o:Nat):aQ fun κ=>uB o x h κ:=aqO x fun cs=>NV h _
theorem al2 (o n:Nat):aQ fun κ=>tJ o n x h κ:=aqO x fun cs=>Nb _ (N1 _ _) N0
theorem am7 (n sz:Nat):aQ fun κ=>aeA n sz x y h κ:=gE y fun _ i=>alv i n fun m=>amA _
theorem ane (n sz:Nat):aQ fun κ=>akK n sz x y h κ:=gE y fun _ i=>alv i n fun m=>al2 _ _
theorem asV (i:Nat):aQ fun κ=>dm i x h κ:=NTup x fun cs=>NV h _
theorem aoj:aQ fun κ=>az x h κ:=atc x (N1 _ _)
theorem asK (lo hi:Option AV):aQ fun κ=>slT x lo hi h κ:=xy x fun s=>No _ fun l=>No _ fun u=>Nb _ (N1 _ _) N0
theorem asC (sz:Nat) (lo hi mx:Option AV):aQ fun κ=>slS sz x lo hi mx h κ:=
 aat x (anV _ _ _ _ _ fun _ _ _=>N1 _ _) (fun b o l c z e=>anV _ _ _ _ _ fun _ _ _=>Nb _ (Nb _ (N1 _ _) (N1 _ _)) N0) fun cs l=>anV _ _ _ _ _ fun _ _ _=>Nb _ (Nb _ (N1 _ _) (N1 _ _)) N0
theorem asS (n sz:Nat) (lo hi:Option AV):aQ fun κ=>slA n sz x lo hi h κ:=
 ahd x (fun b o=>xC h b fun cs _=>Nb _ (anV _ _ _ _ _ fun _ _ _=>Nb _ (N1 _ _) (N1 _ _)) N0) fun _ _=>N0
theorem aq7 (sz by_:Nat) (ze:List AV):aQ fun κ=>aa1 sz by_ ze x y h κ:=gE x fun k l=>gE y fun k' c=>af9 l fun l=>af9 c fun c=>Nb _ (N1 _ _) N0
theorem ap3 (p:Nat→Option (Nat×Nat)) (ze:List AV) (ps:List (Nat×AV)):aQ fun κ=>gD p ze ps h κ:=No _ fun _=>N1 _ _
theorem arp (sz len:Nat) (ze:List AV) (ps:List (Nat×AV)):aQ fun κ=>jf sz len ze ps h κ:=Nb _ (No _ fun _=>N1 _ _) N0
theorem aqx (ki ei:TI) (ok:Bool):aQ fun κ=>lU ki ei ok x y h κ:=No _ fun _=>Nb _ (No _ fun _=>NV h _) N0
theorem zz (ki:TI):aQ fun κ=>xB ki x y z h κ:=by
 cases x<;>first|exact N0|exact No _ fun b=>NMap b fun _ _=>Nb _ (No _ fun _=>N1 _ _) N0
theorem asm (ki:TI):aQ fun κ=>arV ki x y h κ:=by
 cases x<;>first|exact N0|exact Nb _ (N1 _ _) N0|exact No _ fun b=>NMap b fun _ _=>Nb _ (No _ fun _=>N1 _ _) N0
theorem ar4 (sz:Nat) (ze:List AV):aQ fun κ=>aqd sz ze x h κ:=
 aat x (N1 _ _) (fun b o l c z e=>Nb _ (N1 _ _) (Nb _ (xC h b fun cs yy=>Nb _ (N1 _ _) N0) N0)) fun _ _=>Nb _ (N1 _ _) N0
theorem apP (ty sz by_:Nat):aQ fun κ=>ij ty sz by_ x y h κ:=
 No _ fun n=>No _ fun new=>Nb _ (aat x (Nb _ (N1 _ _) (Nb _ (N1 _ _) N0)) (fun b o l c z e=>Nb _ (aaR h b (fun cs yy=>Nb _ (Nb _ (N1 _ _) N0) (Nb _ (N1 _ _) N0)) fun z ll yy=>Nb _ (Nb _ (Nb _ (N1 _ _) N0) (Nb _ (N1 _ _) N0)) N0) N0) fun _ _=>Nb _ (N1 _ _) N0) N0
theorem aqi (sz:Nat):aQ fun κ=>ake sz x y h κ:=
 No _ fun n=>No _ fun m=>No _ fun new=>Nb _ (aat x (N1 _ _) (fun b o l c z e=>Nb _ (xC h b fun cs yy=>Nb _ (N1 _ _) N0) N0) fun _ _=>Nb _ (N1 _ _) N0) N0
theorem ata (ty:Nat):aQ fun κ=>gN ty x h κ:=Nb _ (ajM _) N0
theorem arN:aQ fun κ=>dh x y z h κ:=apY x fun _=>N1 _ _
theorem am0 (args:List AV):aQ fun κ=>ak6 x (apB C run args h κ):=NFn x fun f a c=>NX _
theorem dt:aQ (no.f C run σ T h):=N0
theorem dO (t:Nat) {f:TI→OK} (H: ∀ti,aQ ((f ti).f C run σ T h)):aQ ((tyK C t f).f C run σ T h):=by
 unfold tyK
 split
 ·exact H _
 ·exact dt
theorem yv (c:Bool) {k l:OK} (hk:aQ (k.f C run σ T h)) (hl:aQ (l.f C run σ T h)):aQ ((bq c k l).f C run σ T h):=by cases c<;>assumption
theorem vb (n:Nat) {k:OK} (hk:aQ (k.f C run σ T h)):aQ ((nz n k).f C run σ T h):=yv _ dt hk
theorem asP (op:BinOp) (k:IntKind) (a b:Od):aQ ((wy op k a b).f C run σ T h):=by
 cases op<;>first|exact anW _|exact asM _|exact asZ|exact asJ|exact asf _ _ _|exact ar6 _ _|exact asO _ _
theorem asW (op:BinOp) (a b:Od):aQ ((vu op a b).f C run σ T h):=by
 cases op<;>first|exact ak7|exact alS _|exact dt
theorem ath (op:BinOp) (ti:TI) (a b:Od):aQ ((abQ op ti a b).f C run σ T h):=by
 unfold abQ
 split
 ·exact asP _ _ _ _
 ·exact asW _ _ _
 ·split
  ·exact asu _
  ·exact atk _
  ·exact dt
theorem N_un (op:UnOp) (ti:TI) (a:Od):aQ ((unK op ti a).f C run σ T h):=by
 unfold unK
 split
 ·exact atf
 ·exact asc
 ·exact ass _ _
 ·exact dt
theorem aqA (sd:Bool) (si di:TI) (a:Od):aQ ((gX C sd si di a).f C run σ T h):=by
 unfold gX
 split
 ·exact atb _
 ·exact an6
 ·exact yv _ ab7 dt
 ·exact yv _ acF dt
 ·exact yv _ aqC dt
 ·exact dt
theorem arG (c:Call):aQ ((pM C c ds).f C run σ T h):=by
 unfold pM
 split
 ·exact NX _
 ·exact am0 _
 ·split
  ·refine dO _ fun ti=>?_
   split
   ·exact arj
   ·exact aqF
   ·exact arE
   ·exact N1 _ _
   ·exact dt
  ·exact dt
 ·split
  ·refine dO _ fun ti=>dO _ fun ui=>?_
   split
   ·exact dO _ fun ei=>vb _ (vb _ (apP _ _ _))
   ·exact dO _ fun ei=>vb _ (vb _ (apP _ _ _))
   ·exact dt
  ·exact dt
 ·split
  ·refine dO _ fun ti=>?_
   split
   ·exact dO _ fun ei=>vb _ (aqi _)
   ·exact dt
  ·exact dt
 ·split
  ·exact zy _
  ·exact dt
 ·split
  ·exact zy _
  ·exact dt
 ·split
  ·refine dO _ fun ti=>?_
   split
   ·exact dO _ fun ki=>asm _
   ·exact dt
  ·exact dt
 ·split
  ·refine dO _ fun ti=>?_
   split
   ·exact dO _ fun ei=>vb _ (ar4 _ _)
   ·exact dt
  ·exact dt
 ·exact dt
theorem N_op (o:Op):aQ ((opK C ds o).f C run σ T h):=by
 cases o
 case move x=>exact N1 _ _
 case assign x=>exact N1 _ _
 case pick c x y=>exact arN
 case alloc el=>exact dO _ fun ti=>ajM _
 case box el x=>exact ata _
 case build t ps=>
  refine dO _ fun ti=>?_
  split
  ·exact yv _ (ap3 _ _ _) dt
  ·exact dO _ fun ei=>ap3 _ _ _
  ·exact dt
 case buildSlice t n ps=>
  refine dO _ fun ti=>?_
  split
  ·exact dO _ fun ei=>vb _ (arp _ _ _ _)
  ·exact dt
 case insert t m k x=>
  refine dO _ fun ti=>?_
  split
  ·exact dO _ fun ei=>zz _
  ·exact dt
 case mapUpdate t m k x=>
  refine dO _ fun ti=>?_
  split
  ·exact dO _ fun ei=>zz _
  ·exact dt
 case load t p=>exact dO _ fun ti=>yv _ (adP _) aeR
 case store t p x=>exact dO _ fun ti=>yv _ (ah1 _) amX
 case nilCheck x=>exact aoj
 case binOp op t x y ty=>exact dO _ fun ti=>ath _ _ _ _
 case unOp op t x=>exact dO _ fun ti=>N_un _ _ _
 case convert s d x=>exact dO _ fun si=>dO _ fun di=>aqA _ _ _ _
 case makeFunc fn fi ca=>cases fn<;>first|exact N1 _ _|exact dt
 case makeMap t r=>cases r<;>first|exact N1 _ _|exact dt
 case makeSlice t l c=>
  refine dO _ fun ti=>?_
  split
  ·exact dO _ fun ei=>vb _ (aq7 _ _ _)
  ·exact dt
 case slice t x lo hi mx=>
  refine dO _ fun ti=>?_
  split
  ·split
   ·exact asK _ _
   ·exact dt
  ·exact dO _ fun ei=>asC _ _ _ _
  ·split
   ·exact dO _ fun ei=>vb _ (asS _ _ _ _)
   ·exact dt
  ·exact dt
 case fieldAddr t x f=>
  show aQ ((match eo C t f with|some (off,ui)=>nz ui.size (OK.mk (o1 (aj off) (od ds x)))|none=>no).f C run σ T h)
  split
  ·exact vb _ (aer _)
  ·exact dt
 case field t x f=>
  show aQ ((match eo C t f with|some (off,ui)=>bq ui.agg (OK.mk (o1 (tJ off ui.size) (od ds x))) (OK.mk (o1 (uB off) (od ds x)))|none=>no).f C run σ T h)
  split
  ·exact yv _ (al2 _ _) (amA _)
  ·exact dt
 case indexAddr t x i=>
  refine dO _ fun ti=>?_
  split
  ·exact dO _ fun ei=>arW _ _
  ·exact dO _ fun ei=>aql _
  ·exact dt
 case index t x i=>
  refine dO _ fun ti=>?_
  split
  ·exact dO _ fun ei=>yv _ (ane _ _) (am7 _ _)
  ·exact ap7
  ·exact dt
 case lookup t x i cok=>
  refine dO _ fun ti=>?_
  split
  ·exact dO _ fun ki=>dO _ fun ei=>aqx _ _ _
  ·exact dt
 case extract x i=>exact asV _
 case call c=>exact arG c
 all_goals exact dt
theorem anq (x:Od) (w:Bool) {k:OK} (hk:aQ (k.f C run σ T h)):aQ ((OK.mk (yn x w k.f)).f C run σ T h):=No _ fun b=>Nb b hk (N1 _ _)
theorem N_gd (ops:List Oper) (g:Option (Nat×Bool)) {k:OK} (hk:aQ (k.f C run σ T h)):aQ ((gdK ops ds g k).f C run σ T h):=by
 unfold gdK
 split
 ·exact hk
 ·split
  ·split
   ·exact anq _ _ hk
   ·exact dt
  ·exact dt
end
def rn (C:Cx) (o:OK):Prop:=∀run σ T h,aQ (o.f C run σ T h)
def dY (C:Cx) (k:K):Prop:=
 K.rec (motive:=fun _=>Prop) True (fun l _=>∀o∈l,rn C o) (fun _ _ _=>True) (fun _ _ _ _ _ _=>True) (fun _ _ a b=>a∧b) (fun _ _ _ a b=>a∧b) (fun _ _ b=>b) (fun _ b=>b) (fun _ _ _ _ _ _=>True)
  (fun _ _ _ _ _ _ _ _ _ _ r=>r) (fun _=>True) True k
theorem vS (C:Cx) (ops:List Oper): ∀(l:List Oper) (ds:List (Option Nat)),∀o∈aU C ops ds l,rn C o
 |[],_,o,ho=>by cases ho
 |a::r,ds,o,ho=>by
  rcases List.mem_cons.1 ho with rfl|ho
  ·exact fun run σ T h=>N_gd ops a.guard (N_op a.op)
  ·exact vS C ops r (a.dst::ds) o ho
theorem gG (C:Cx) (ps:List Nat): ∀c:Code,dY C (comp C ps c)
 | .skip=>trivial
 | .region _ ops d=>by
   show dY C (bq d (bq (eS C ops) (.draw _ _ _) (yZ C ps ops)) (.reg (aU C ops.toList [] ops.toList) _))
   cases d with
   |false=>exact vS C _ _ _
   |true=>
    show dY C (bq (eS C ops) (.draw _ _ _) (yZ C ps ops))
    cases eS C ops with
    |true=>exact trivial
    |false=>
     show dY C (yZ C ps ops)
     unfold yZ
     split
     ·rename_i i j _
      cases aag C ops i j<;>exact trivial
     ·exact trivial
 | .seq a b=>by
   have ha:=gG C ps a
   have hb:=gG C ps b
   show dY C (uu C ps a b (comp C ps a) (comp C ps b))
   revert ha hb
   generalize comp C ps a=ka
   generalize comp C ps b=kb
   intro ha hb
   unfold uu
   split
   ·split
    ·exact hb.2.2.2
    ·exact ⟨ha,hb⟩
   ·exact ⟨ha,hb⟩
 | .cond c a b=>⟨gG C ps a,gG C ps b⟩
 | .block _ b=>gG C ps b
 | .loop b=>gG C ps b
 | .rangeFunc _ pa a b=>by
   unfold comp
   split
   ·cases and (qX C a) (qX C b)<;>trivial
   ·trivial
 | .exit _=>trivial
 | .scope b=>gG C ps b
 | .label _=>trivial
 | .goto _=>trivial
 | .ret=>trivial
 | .refuse _=>trivial
theorem aic {C:Cx} {k:K} (i:Nat) (hk:dY C k):dY C (kSub k i):=by
 cases k with
 |seq a b=>show dY C (bq _ a b);cases Nat.beq i 0<;>first|exact hk.1|exact hk.2
 |cond c a b=>show dY C (bq _ a b);cases Nat.beq i 0<;>first|exact hk.1|exact hk.2
 |block _ b=>exact hk
 |loop b=>exact hk
 |rm _ _ _ _ _ _ _ _ _ r=>exact hk
 |_=>exact trivial
theorem iq {C:Cx}: ∀(p:List Nat) {k:K},dY C k→dY C (kAt p k)
 |[],_,hk=>hk
 |i::p,_,hk=>iq p (aic i hk)
theorem amL {C:Cx} {fn:Func} {F:FK} (e:ab5 C fn=some F):dY C F.k:=by
 unfold ab5 at e
 split at e
 ·rename_i c _
  obtain ⟨_,e2⟩:=av e
  cases e2
  exact gG C _ c
 ·cases e
theorem iA (C:Cx) (f:Nat):dY C (kOf C f):=by
 unfold kOf cZ
 cases hf:C.fn f with
 |none=>exact trivial
 |some fn=>
  show dY C (Option.rec (motive:=fun _=>K) .no (fun F=>F.k) (ab5 C fn))
  cases hk:ab5 C fn with
  |none=>exact trivial
  |some F=>exact amL hk
section
variable {C:Cx} {run:Run} {lp:Lp}
theorem ajN (κn:Kt) (κx:Ex→Kt):kcR κn κx none=none:=(rfl)
theorem xE (κn:Kt) (κx:Ex→Kt) (s:St):kcR κn κx (some (.nrm,s))=κn s:=(rfl)
theorem amG (κn:Kt) (κx:Ex→Kt) (i:Nat) (s:St):kcR κn κx (some (.exit i,s))=κx (.exit i) s:=(rfl)
theorem anp (κn:Kt) (κx:Ex→Kt) (s:St):kcR κn κx (some (.ret,s))=κx .ret s:=(rfl)
theorem akS (κn:Kt) (κx:Ex→Kt) (T:Tms) (fl:List (Nat×Nat)): ∀(l:List OK),(∀o∈l,rn C o)→ ∀(σ:List AV) (h:AH),
 vd C run T l (fun σ h=>κn ⟨bU σ T fl,h⟩) σ h=kcR κn κx (eZ (gF C run fl T l σ h))
 |[],_,σ,h=>rfl
 |⟨f⟩::r,hl,σ,h=>by
  have hr:=fun v h'=>akS κn κx T fl r (fun o ho=>hl o (List.mem_cons_of_mem _ ho)) (v::σ) h'
  show f C run σ T h (fun v=>vd C run T r (fun σ h=>κn ⟨bU σ T fl,h⟩) (v::σ))=kcR κn κx (eZ (f C run σ T h fun v=>gF C run fl T r (v::σ)))
  rcases hl _ (List.mem_cons_self ..) run σ T h with hn|⟨v,h',hn⟩
  ·rw [show f C run σ T h (fun v=>vd C run T r (fun σ h=>κn ⟨bU σ T fl,h⟩) (v::σ))=none from hn _,show f C run σ T h (fun v=>gF C run fl T r (v::σ))=none from hn _];rfl
  ·rw [show f C run σ T h (fun v=>vd C run T r (fun σ h=>κn ⟨bU σ T fl,h⟩) (v::σ))=vd C run T r (fun σ h=>κn ⟨bU σ T fl,h⟩) (v::σ) h' from hn _,show f C run σ T h (fun v=>gF C run fl T r (v::σ))=gF C run fl T r (v::σ) h' from hn _]
   exact hr v h'
theorem lz: ∀(k:K),dY C k→ ∀(s:St) (κn:Kt) (κx:Ex→Kt),kc C run lp k s κn κx=kcR κn κx (kx C run lp k s)
 | .skip,_,s,κn,κx=>rfl
 | .reg l fl,hk,s,κn,κx=>akS κn κx s.t fl l hk [] s.h
 | .draw _ _ _,_,s,κn,κx=>rfl
 | .draw2 _ _ _ _ _ _,_,s,κn,κx=>rfl
 | .seq a b,hk,s,κn,κx=>by
   show kc C run lp a s (fun s=>kc C run lp b s κn κx) κx=kcR κn κx (aq (kx C run lp a s) (sC (kx C run lp b)))
   rw [lz a hk.1]
   rcases kx C run lp a s with _|⟨e,s'⟩
   ·rfl
   ·cases e with
    |nrm=>exact lz b hk.2 s' κn κx
    |exit i=>rfl
    |ret=>rfl
 | .cond c a b,hk,s,κn,κx=>by
   show bn (ev C [] s.t c) (kc C run lp a s κn κx) (kc C run lp b s κn κx)=kcR κn κx (kIf (ev C [] s.t c) (kx C run lp a) (kx C run lp b) s)
   rw [lz a hk.1,lz b hk.2]
   cases ev C [] s.t c<;>try rfl
   rename_i q
   cases q<;>rfl
 | .block id b,hk,s,κn,κx=>by
   show kc C run lp b s κn (kcO id κn κx)=kcR κn κx (aq (kx C run lp b s) (aos id))
   rw [lz b hk]
   rcases kx C run lp b s with _|⟨e,s'⟩
   ·rfl
   ·cases e with
    |nrm=>rfl
    |exit i=>
     show bq (Nat.beq i id) (κn s') (κx (.exit i) s')=kcR κn κx (bq (Nat.beq i id) (some (.nrm,s')) (some (.exit i,s')))
     cases Nat.beq i id<;>rfl
    |ret=>rfl
 | .loop b,_,s,κn,κx=>rfl
 | .rf _ _ _ _,_,s,κn,κx=>rfl
 | .rm _ _ _ _ _ _ _ _ _ _,_,s,κn,κx=>rfl
 | .ex e,_,s,κn,κx=>by cases e<;>rfl
 | .no,_,s,κn,κx=>rfl
theorem an8 (n:Nat) {b:K} (hb:dY C b) (s:St) (κn:Kt) (κx:Ex→Kt):
 kcR κn κx ((rl C (n+1)).lp b s)=kc C (rl C n).run (rl C n).lp b s (fun s=>kcR κn κx ((rl C n).lp b s)) κx:=by
 rw [as2,lz b hb]
 rcases kx C (rl C n).run (rl C n).lp b s with _|⟨e,s'⟩
 ·rfl
 ·cases e<;>rfl
end
noncomputable section
def kcE (C:Cx) (rs:List ResultVar):Kt:=fun s=>aq (mC C s.h s.t rs) fun l=>some (.vh (abA l) s.h)
def kcQ (C:Cx) (rs:List ResultVar) (e:Ex):Kt:=fun s=>Ex.rec (motive:=fun _=>Option Rs) (kcE C rs s) (fun _=>none) (kcE C rs s) e
def zF (C:Cx) (s:St) (rs:List ResultVar):(List AV→Option Rs)→Option Rs:=
 List.rec (motive:=fun _=>(List AV→Option Rs)→Option Rs) (fun κ=>κ []) (fun r _ ih κ=>ResultVar.rec (motive:=fun _=>Option Rs) (fun i=>ih fun l=>κ (aW s.t i::l))
  (fun a ty=>aq (C.ty ty) fun ti=>bq ti.agg (aO ti.size (aW s.t a) s.h fun v _=>ih fun l=>κ (v::l)) (ao (aW s.t a) s.h fun v _=>ih fun l=>κ (v::l))) r) rs
end
section
variable {C:Cx} {run:Run} {lp:Lp}
theorem abX (s:St): ∀(rs:List ResultVar) (κ:List AV→Option Rs),aq (mC C s.h s.t rs) κ=zF C s rs κ
 |[],κ=>rfl
 | .tmp i::r,κ=>by
   show aq (match mC C s.h s.t r with|some l=>some (aW s.t i::l)|none=>none) κ=zF C s r fun l=>κ (aW s.t i::l)
   rw [←abX s r]
   cases mC C s.h s.t r<;>rfl
 | .cell a ty::r,κ=>by
   show aq (match vhO (adm C ty (aW s.t a) s.h),mC C s.h s.t r with|some x,some l=>some (x.1::l)|_,_=>none) κ=aq (C.ty ty) fun ti=>bq ti.agg (aO ti.size (aW s.t a) s.h fun v _=>zF C s r fun l=>κ (v::l)) (ao (aW s.t a) s.h fun v _=>zF C s r fun l=>κ (v::l))
   have ih:=fun v=>abX s r fun l=>κ (v::l)
   unfold adm
   cases C.ty ty with
   |none=>rfl
   |some ti=>
    show aq (match vhO (bq ti.agg (aO ti.size (aW s.t a) s.h kVH) (ao (aW s.t a) s.h kVH)),mC C s.h s.t r with|some x,some l=>some (x.1::l)|_,_=>none) κ=bq ti.agg (aO ti.size (aW s.t a) s.h fun v _=>zF C s r fun l=>κ (v::l)) (ao (aW s.t a) s.h fun v _=>zF C s r fun l=>κ (v::l))
    have fin: ∀F:Ka→Option Rs,aQ F→aq (match vhO (F kVH),mC C s.h s.t r with|some x,some l=>some (x.1::l)|_,_=>none) κ=F fun v _=>zF C s r fun l=>κ (v::l):=by
     intro F hF
     rcases hF with hF|⟨v,h',hF⟩
     ·rw [hF,hF];rfl
     ·rw [hF,hF,←ih v]
      cases mC C s.h s.t r<;>rfl
    cases ti.agg with
    |true=>exact fin _ (adP _)
    |false=>exact fin _ aeR
theorem bH (C:Cx) (rs:List ResultVar) (s:St):kcE C rs s=zF C s rs fun l=>some (.vh (abA l) s.h):=abX s rs _
theorem aqm (rs:List ResultVar) (x:Option (Ex×St)):aq x (aqk C rs)=vhO (kcR (kcE C rs) (kcQ C rs) x):=by
 have he: ∀s:St,(match mC C s.h s.t rs with|some l=>some (abA l,s.h)|none=>none)=vhO (kcE C rs s):=by
  intro s
  unfold kcE
  cases mC C s.h s.t rs<;>rfl
 rcases x with _|⟨e,s⟩
 ·rfl
 ·cases e with
  |nrm=>exact he s
  |exit i=>rfl
  |ret=>exact he s
theorem bI {f:Nat} {F:FK} {args:List AV} {h:AH} (ho:C.orc f=none) (hf:cZ C f=some F) (hl:Nat.ble (ag args) F.n=true):
 cP C run lp f args h=vhO (kc C run lp F.k ⟨ad4 args F.ps,h⟩ (kcE C F.rs) (kcQ C F.rs)):=by
 have hn:dY C F.k:=by
  have:=iA C f
  unfold kOf at this
  rw [hf] at this
  exact this
 unfold cP
 rw [ho]
 unfold runB
 rw [hf]
 show ajz C run lp args h F.k F.ps F.n F.rs=_
 unfold ajz
 rw [hl,au,aqm,lz _ hn]
end
attribute [irreducible] dY kOf kAt kc
end Go.Proofs.YteapfopaiocpeaaGreatDoor
namespace Go.Proofs.YteapfopaiocpeaaGreatDoor
set_option linter.unusedSimpArgs false
set_option linter.unusedVariables false
set_option linter.unnecessarySimpa false
set_option linter.defProp false
def Ends (P:AV→AH→Prop) (x:Option Rs):Prop:=∃r h,x=some (.vh r h)∧P r h
def aC (P:AV→AH→Prop) (x:Option (AV×AH)):Prop:=∃r h,x=some (r,h)∧P r h
section
variable {C:Cx} {run:Run} {lp:Lp} {Q:Option Rs→Prop} {A B:Option Rs} {κ:Ka} {h:AH} {P R:AV→AH→Prop}
theorem Ends.mk {r:AV} {h:AH} (p:P r h):Ends P (some (.vh r h)):=⟨r,h,rfl,p⟩
theorem aC.mono {x:Option (AV×AH)} (g:aC P x) (i: ∀r h,P r h→R r h):aC R x:=by
 obtain ⟨r,h,e,p⟩:=g
 exact ⟨r,h,e,i r h p⟩
theorem aC.of {x y:Option (AV×AH)} (e:x=y) (g:aC P y):aC P x:=by rw [e];exact g
theorem Ends.gives {x:Option Rs} (e:Ends P x):aC P (vhO x):=by
 obtain ⟨r,h,rfl,p⟩:=e
 exact ⟨r,h,rfl,p⟩
theorem arR:bn (.bool true) A B=A:=(rfl)
theorem aro:bn (.bool false) A B=B:=(rfl)
theorem atg (id:Nat) (κn:Kt) (κx:Ex→Kt) (s:St):kcO id κn κx .nrm s=κn s:=(rfl)
theorem akT (id:Nat) (κn:Kt) (κx:Ex→Kt) (s:St):kcO id κn κx .ret s=κx .ret s:=(rfl)
theorem vB (id i:Nat) (κn:Kt) (κx:Ex→Kt) (s:St):kcO id κn κx (.exit i) s=bq (decide (i=id)) (κn s) (κx (.exit i) s):=by rw [←kB];rfl
theorem pb (rs:List ResultVar) (s:St):kcQ C rs .ret s=kcE C rs s:=(rfl)
theorem bG {x:Option (AV×AH)} (g:aC P x) (k: ∀r h',P r h'→Q (κ r h')):Q (aJ κ x):=by
 obtain ⟨r,h',rfl,p⟩:=g
 exact k r h' p
theorem wEq (e:A=B) (q:Q B):Q A:=by rw [e];exact q
theorem aC.call {f:Nat} {args:List AV} (g:aC P (run f args h)) (hx:C.ext f=none:=by kernel_rfl) (ho:C.own f=true:=by kernel_rfl) (ht:C.tr f=false:=by kernel_rfl):aC P (aE C run f args h):=by
 obtain ⟨r,h',e,p⟩:=g
 exact ⟨r,h',aix hx ho ht e,p⟩
theorem aC.runs {n f:Nat} {args:List AV} {x:Option Rs} (e:cP C (rl C n).run (rl C n).lp f args h=vhO x) (p:Ends P x):aC P ((rl C (n+1)).run f args h):=by
 rw [arS,e];exact p.gives
theorem fm {n:Nat} {b:K} {s:St} {κn:Kt} {κx:Ex→Kt} (hb:dY C b) (q:Q (kc C (rl C n).run (rl C n).lp b s (fun s=>kcR κn κx ((rl C n).lp b s)) κx)):Q (kcR κn κx ((rl C (n+1)).lp b s)):=by
 rw [an8 n hb];exact q
theorem fuel {n k:Nat} (h:k≤n): ∃m,n=m+k:=⟨n-k,by omega⟩
end
section
variable {h:AH} {κ:Ka}
def dj (v:AV) (cs:List AV):Prop:=(cs=[]∧(v= .nils∨v= .sle))∨v= .slp cs cs.length
theorem dj.at {v:AV} {cs:List AV} (p:dj v cs) (h:AH):cY h v cs:=by
 rcases p with ⟨rfl,p⟩|rfl
 ·exact .inl ⟨rfl,p⟩
 ·exact .inr (.inl ⟨cs,rfl,by simp⟩)
theorem dj.lt {v:AV} {cs:List AV} (p:dj v cs) (k:Nat):v.lt k=true:=by
 rcases p with ⟨_,rfl|rfl⟩|rfl<;>rfl
theorem dj.len {v:AV} {cs:List AV} (p:dj v cs) (h:AH) (κ:Ka):bF v h κ=κ (.int 9223372036854775807 (cs.length:Int)) h:=(p.at h).bF h κ
theorem dj.cut {v:AV} {cs:List AV} (p:dj v cs) (hne:cs≠[]) {l u:Nat} (h1:l≤u) (h2:u≤cs.length) (k k':Nat) (h:AH) (κ:Ka):
 slS 1 v (some (.int k (l:Int))) (some (.int k' (u:Int))) none h κ=κ (.slp ((cs.drop l).take (u-l)) (u-l)) h:=by
 rcases p with ⟨rfl,_⟩|rfl
 ·exact absurd rfl hne
 ·show bq (and (and (Nat.ble l u) (Nat.ble u cs.length)) (and (Nat.ble cs.length cs.length) (or (not false) true))) (bq (Nat.beq (ag cs) (Nat.mul cs.length 1)) (bq (and false (Nat.beq l cs.length)) (κ .sle h) (κ (.slp (b7 (Nat.mul (Nat.sub u l) 1) (cG (Nat.mul l 1) cs)) (Nat.sub u l)) h)) none) none=_
  rw [bR,bR,bR,ah,decide_eq_true h1,decide_eq_true h2,decide_eq_true (Nat.le_refl _),kB,decide_eq_true (show cs.length=Nat.mul cs.length 1 from (Nat.mul_one _).symm),aK,bc,show Nat.mul l 1=l from Nat.mul_one _,show Nat.mul (Nat.sub u l) 1=u-l from Nat.mul_one _]
  rfl
theorem dj.tail {v:AV} {cs:List AV} (p:dj v cs) (hne:cs≠[]) {l:Nat} (h2:l≤cs.length) (k:Nat) (h:AH) (κ:Ka):
 slS 1 v (some (.int k (l:Int))) none none h κ=κ (.slp (cs.drop l) (cs.length-l)) h:=by
 rcases p with ⟨rfl,_⟩|rfl
 ·exact absurd rfl hne
 ·show bq (and (and (Nat.ble l cs.length) (Nat.ble cs.length cs.length)) (and (Nat.ble cs.length cs.length) (or (not false) false))) (bq (Nat.beq (ag cs) (Nat.mul cs.length 1)) (bq (and false (Nat.beq l cs.length)) (κ .sle h) (κ (.slp (b7 (Nat.mul (Nat.sub cs.length l) 1) (cG (Nat.mul l 1) cs)) (Nat.sub cs.length l)) h)) none) none=_
  rw [bR,bR,ah,decide_eq_true h2,decide_eq_true (Nat.le_refl _),kB,decide_eq_true (show cs.length=Nat.mul cs.length 1 from (Nat.mul_one _).symm),aK,bc,show Nat.mul l 1=l from Nat.mul_one _,show Nat.mul (Nat.sub cs.length l) 1=cs.length-l from Nat.mul_one _,List.take_of_length_le (by simp)]
  rfl
theorem dj.mk (cs:List AV) {n:Nat} (h:n=cs.length):dj (.slp cs n) cs:=.inr (by rw [h])
end
section
variable {h:AH} {κ:Ka} {Q:Option Rs→Prop}
theorem gV.new {m:Nat} (hm:m≤h.length) (c:AV) (y:Nat) (e:Bool):gV m (h++[some (.cells [c] y)]) (.slo h.length 0 1 1 1 e) [c]:=.inr ⟨h.length,y,e,hm,rfl,aH _ _⟩
theorem gV.nil {m:Nat}:gV m h .nils []:=.inl ⟨rfl,rfl⟩
theorem gV.push {m:Nat} {v:AV} {cs:List AV} (r:gV m h v cs) (x:AH):gV m (h++x) v cs:=r.up fun i _ hi=>ak hi x
end
def aR (l:List Nat):List AV:=l.map fun b:Nat=>AV.int 255 (b:Int)
theorem bg (l:List Nat):(aR l).length=l.length:=by simp [aR]
theorem nJ: ∀l:List Nat,aV (aR l)=true
 |[]=>rfl
 |a::r=>by show and true (aV (aR r))=true;rw [nJ r];rfl
theorem oA {l:List Nat} {i b:Nat} (h:l[i]? =some b):(aR l)[i]? =some (.int 255 (b:Int)):=by unfold aR;rw [List.getElem?_map,h];rfl
theorem jq (n:Nat) (l:List Nat):(aR l).drop n=aR (l.drop n):=by unfold aR;rw [List.map_drop]
theorem mB (n:Nat) (l:List Nat):(aR l).take n=aR (l.take n):=by unfold aR;rw [List.map_take]
theorem vK: ∀{l:List Nat},(∀b∈l,b<256)→bytesOf (aR l)=some l
 |[],_=>rfl
 |a::r,h=>by
  have ih:=vK (l:=r) fun b hb=>h b (List.mem_cons_of_mem _ hb)
  have ha:a<256:=h a (List.mem_cons_self ..)
  unfold bytesOf at*
  rw [db] at*
  show jd (kF (.int 255 (Int.ofNat a))::(aR r).map kF)=_
  have:kF (.int 255 (Int.ofNat a))=some a:=by
   show bq (and (Nat.beq 255 255) (Nat.blt a 256)) (some a) none=_
   rw [uT,decide_eq_true ha];rfl
  rw [this]
  unfold jd
  rw [ih]
theorem alw {h:AH} {v:AV} {l:List Nat} (s:cY h v (aR l)) (hl: ∀b∈l,b<256) (κ:Ka):eW v h κ=κ (.str l) h:=by
 have e:=s.elems
 unfold eW
 rw [s.pc,aS,e,aS,vK hl,aS]
 rcases s with ⟨_,rfl|rfl⟩|⟨row,rfl,_⟩|⟨b,o,n,row,y,e,rfl,_⟩<;>rfl
def sy0:=And.intro @aj4<|And.intro @ajH<|And.intro @aoQ<|And.intro @anO<|And.intro @anw<|And.intro @ao1<|And.intro @min_eq<|And.intro @max_eq<|And.intro @aps<|And.intro @aqN<|And.intro @aqe<|And.intro @ahK<|And.intro @afS<|And.intro @ap9<|And.intro @aqE<|And.intro @ark<|And.intro @anx<|And.intro @arC<|And.intro @aom<|And.intro @aqU<|And.intro @aqS<|And.intro @aqK<|And.intro @arz<|And.intro @uK<|And.intro @aqY<|And.intro @bqT<|And.intro @bqF<|And.intro @aj7<|And.intro @amE<| @dP
def sy1:=And.intro @eX<|And.intro @cmp_eq<|And.intro @zU<|And.intro @anJ<|And.intro @apg<|And.intro @aoN<|And.intro @aoC<|And.intro @aia<|And.intro @kU<|And.intro @ad1<|And.intro @uw<|And.intro @pX<|And.intro @xV<|And.intro @kV<|And.intro @xO<|And.intro @tL<|And.intro @py<|And.intro @afH<|And.intro @aiq<|And.intro @aqV<|And.intro @aqv<|And.intro @aoy<|And.intro @xQ<|And.intro @sK<|And.intro @ann<|And.intro @aru<|And.intro @aiM<|And.intro @aph<|And.intro @anI<| @kR
def sy2:=And.intro @am6<|And.intro @apa<|And.intro @afO<|And.intro @ae0<|And.intro @tV<|And.intro @ab0<|And.intro @apV<|And.intro @asn<|And.intro @apL<|And.intro @iltE<|And.intro @igtE<|And.intro @ileE<|And.intro @igeE<|And.intro @ineE<|And.intro @zt<|And.intro @aH<|And.intro @afU<|And.intro @afK<|And.intro @aey<|And.intro @abL<|And.intro @aaC<|And.intro @ahg<|And.intro @abV<|And.intro @ahC<|And.intro @acI<|And.intro @agQ<|And.intro @ahA<|And.intro @agG<|And.intro @afN<| @ahe
def sy3:=And.intro @agK<|And.intro @arx<|And.intro @aqa<|And.intro @an9<|And.intro @aqH<|And.intro @arO<|And.intro @apm<|And.intro @aqW<|And.intro @aq2<|And.intro @agb<|And.intro @agd<|And.intro @acy<|And.intro @agV<|And.intro @ajN<|And.intro @xE<|And.intro @amG<|And.intro @anp<|And.intro @atg<|And.intro @akT<|And.intro @vB<|And.intro @pb<|And.intro @arR<| @aro
def syL:=And.intro @List.length_set.{0}<|And.intro @Nat.le_add_right<|And.intro @List.length_cons.{0}<|And.intro @List.length_nil.{0}<|And.intro @List.take_succ_cons.{0}<|And.intro @List.take_zero.{0}<|And.intro @List.drop_succ_cons.{0}<|And.intro @List.drop_zero.{0}<|And.intro @List.cons_append.{0}<|And.intro @List.nil_append.{0}<|And.intro @List.append_nil.{0}<|And.intro @List.drop_nil.{0}<|And.intro @List.take_nil.{0}<|And.intro @List.getElem?_cons_zero.{0}<|And.intro @List.getElem?_cons_succ.{0}<|And.intro @List.set_cons_zero.{0}<|And.intro @List.set_cons_succ.{0}<|And.intro @Nat.zero_add<|And.intro @Nat.add_zero<|And.intro @decide_true<|And.intro @decide_false<|And.intro @Bool.and_true<|And.intro @Bool.true_and<|And.intro @Bool.and_false<|And.intro @Bool.false_and<|And.intro @Bool.not_true<|And.intro @Bool.not_false<| @Nat.le_refl
def sy:=And.intro @sy0<|And.intro @sy1<|And.intro @sy2<|And.intro @sy3<| @syL
end Go.Proofs.YteapfopaiocpeaaGreatDoor
