/- Externs, calls told ahead, arguments that came in, rules of symbolic runs, the frame. -/
import Derived.Test.YteapfopaiocpeaaGreatDoorMD
import Derived.Laws.Externs
import Derived.Lib.Bytealg
import Derived.Conc.AtomicLaws2
import Derived.Test.YteapfopaiocpeaaGreatDoorMB
import Derived.OpenShut
import Derived.ChangeArms
import Derived.ChangeBears
import Derived.RowKit
import Derived.HandedShaped
import Derived.Handed
import Derived.Below
import Derived.Carry
import Derived.FnData
import Derived.WideShapes
import Derived.KernelRfl
namespace Go.Proofs.YteapfopaiocpeaaGreatDoor
set_option linter.unusedSimpArgs false
set_option linter.unusedVariables false
set_option linter.unnecessarySimpa false
def oy (P:Program) (C:Cx) (f:Nat) (g:List AV→AH→Option (AV×AH)):Prop:=
 ∀args h v h',g args h=some (v,h')→ ∀ok w ρ us,Inv C ok w ρ h→VL ok w args ρ us→ ∃u w' ok' ρ',(callFunc f us.toArray).run P w= .ok (.value u) w'∧Ext ok w ρ h ok' w' ρ' h'∧Inv C ok' w' ρ' h'∧V ok' w' v ρ' u
structure hO (P:Program) (f:Nat) (e:Array Value→Sem Value):Prop where
 row : ∃ fn, P.funcs[f]? = some fn ∧ (fn.name == "runtime.NumGoroutine") = false ∧ fn.body.isNone = true ∧ Extern.findNext fn = none ∧ Extern.find fn = some e
theorem hO.run {P:Program} {f:Nat} {e:Array Value→Sem Value} (R:hO P f e) (us:Array Value) (w:World):(callFunc f us).run P w=((e us).run P w).andThen fun v w'=>.ok (.value v) w':=by
 obtain ⟨fn,h1,h2,h3,h4,h5⟩:=R.row
 exact run_callFunc_extern h1 h2 h3 h4 h5 us w
theorem oy.pure {P:Program} {C:Cx} {f:Nat} {e:Array Value→Sem Value} (R:hO P f e) {g:List AV→Option AV}
 (h: ∀args v,g args=some v→ ∀ok w ρ us,VL ok w args ρ us→ ∃u,(e us.toArray).run P w= .ok u w∧V ok w v ρ u):oy P C f (fun args h=>au (g args) fun v=>some (v,h)):=by
 intro args hh v h' e1 ok w ρ us I hv
 obtain ⟨x,e2,e3⟩:=ag e1
 cases e3
 obtain ⟨u,h1,h2⟩:=h args v e2 ok w ρ us hv
 exact ⟨u,w,ok,ρ,by rw [R.run,h1];rfl,Ext.refl _ _ _ _,I,h2⟩
noncomputable def aqw (l:List AV):Option AV:=
 match l with
 |[.int k1 (.ofNat a),.int k2 (.ofNat b),.int k3 (.ofNat c)]=>bq (and (and (Nat.beq k1 18446744073709551615) (Nat.beq k2 18446744073709551615)) (and (Nat.beq k3 18446744073709551615) (Nat.ble c 1)))
  (some (.tup [.int 18446744073709551615 (.ofNat (Nat.mod (Nat.add (Nat.add a b) c) 18446744073709551616)),.int 18446744073709551615 (.ofNat (Nat.div (Nat.add (Nat.add a b) c) 18446744073709551616))])) none
 |_=>none
theorem anF {P:Program} {C:Cx} {f:Nat} (R:hO P f add64Entry):oy P C f (fun args h=>au (aqw args) fun v=>some (v,h)):=by
 refine oy.pure R (fun args v e ok w ρ us hv=>?_)
 unfold aqw at e
 split at e
 ·rename_i k1 a k2 b k3 c
  obtain ⟨e1,e2⟩:=ax e
  cases e2
  simp only [Bool.and_eq_true] at e1
  obtain ⟨⟨h1,h2⟩,h3,h4⟩:=e1
  have h4:=Nat.le_of_ble_eq_true h4
  simp only [VL] at hv
  obtain ⟨u1,_,rfl,v1,u2,_,rfl,v2,u3,_,rfl,v3,rfl⟩:=hv
  simp only [V] at v1 v2 v3
  obtain ⟨q1,rfl,rfl⟩:=v1
  obtain ⟨q2,rfl,rfl⟩:=v2
  obtain ⟨q3,rfl,rfl⟩:=v3
  cases dA (b:=.u64) h1
  cases dA (b:=.u64) h2
  cases dA (b:=.u64) h3
  have:=run_add64 (P:=P) (a:Int) (b:Int) (c:Int) (by omega) (by omega) (by omega) (by omega) w
  refine ⟨_,this,?_⟩
  simp only [V]
  refine ⟨_,rfl,?_⟩
  simp only [VL]
  refine ⟨_,_,rfl,?_,_,_,rfl,?_,rfl⟩
  ·simp only [V]
   refine ⟨.u64,rfl,?_⟩
   congr 1
  ·simp only [V]
   refine ⟨.u64,rfl,?_⟩
   congr 1
 ·cases e
noncomputable def yC (c:Nat) (l:List Nat):Nat→Int:=List.rec (motive:=fun _=>Nat→Int) (fun _=>.negSucc 0) (fun a _ ih i=>bq (Nat.beq a c) (.ofNat i) (ih (Nat.succ i))) l
noncomputable def ajw (l:List AV):Option AV:=
 match l with
 |[.str s,.int k (.ofNat c)]=>bq (and (Nat.beq k 255) (Nat.blt c 256)) (some (.int 9223372036854775807 (yC c s 0))) none
 |_=>none
theorem uu (c:UInt8): ∀(l:List UInt8) (i:Nat),yC c.toNat (l.map UInt8.toNat) i=if Lib.indexByte l c= -1 then-1 else Lib.indexByte l c+i
 |[],i=>rfl
 |a::l,i=>by
  show bq (Nat.beq a.toNat c.toNat) (.ofNat i) (yC c.toNat (l.map UInt8.toNat) (i+1))=_
  rw [uu c l (i+1)]
  have hge:=Lib.indexByte_ge l c
  by_cases h:a=c
  ·subst h
   have e1:Lib.indexByte (a::l) a=0:=by simp [Lib.indexByte]
   rw [Nat.beq_refl,aw,e1]
   simp
  ·have h1:Nat.beq a.toNat c.toNat=false:=by
    rw [Bool.eq_false_iff]
    intro hh
    exact h (UInt8.toNat_inj.1 (Nat.eq_of_beq_eq_true hh))
   rw [h1,ay]
   by_cases h3:Lib.indexByte l c= -1
   ·have e1:Lib.indexByte (a::l) c= -1:=by simp [Lib.indexByte,h,h3]
    rw [e1,if_pos h3,if_pos rfl]
   ·have e1:Lib.indexByte (a::l) c=Lib.indexByte l c+1:=by simp [Lib.indexByte,h,h3]
    rw [e1,if_neg h3,if_neg (by omega)]
    push_cast
    omega
theorem ahT {P:Program} {C:Cx} {f:Nat} (R:hO P f Extern.BytealgIndexByte.indexByte):oy P C f (fun args h=>au (ajw args) fun v=>some (v,h)):=by
 refine oy.pure R (fun args v e ok w ρ us hv=>?_)
 unfold ajw at e
 split at e
 ·rename_i s k c
  obtain ⟨e1,e2⟩:=ax e
  cases e2
  rw [Bool.and_eq_true] at e1
  have hc:c<256:=by simpa [Nat.blt_eq] using e1.2
  simp only [VL] at hv
  obtain ⟨u1,_,rfl,v1,u2,_,rfl,v2,rfl⟩:=hv
  simp only [V] at v1 v2
  obtain ⟨S,rfl,rfl⟩:=v1
  obtain ⟨q,rfl,rfl⟩:=v2
  cases dA (b:=.u8) e1.1
  refine ⟨_,run_indexByte_string S (c:Int) w,?_⟩
  simp only [V]
  refine ⟨.i64,rfl,?_⟩
  have h1:=uu (UInt8.ofNat c) S.data.toList 0
  have h2:(UInt8.ofNat c).toNat=c:=by simp [UInt8.toNat_ofNat',Nat.mod_eq_of_lt hc]
  rw [h2] at h1
  rw [h1]
  have h3:Int.toNat (c:Int)=c:=by omega
  rw [h3]
  have h4:Nat.toUInt8 c=UInt8.ofNat c:=rfl
  rw [h4,Lib.firstIdx_eq]
  split
  ·next h=>rw [h]
  ·simp
 ·cases e
end Go.Proofs.YteapfopaiocpeaaGreatDoor
namespace Go.Proofs.YteapfopaiocpeaaGreatDoor
set_option linter.unusedSimpArgs false
set_option linter.unusedVariables false
set_option linter.unnecessarySimpa false
noncomputable section
def amz (l:List (List AV×AV)) (args:List AV):Option AV:=List.rec (motive:=fun _=>Option AV) none (fun p _ ih=>bq (AV.same (.agg p.1) (.agg args)) (some p.2) ih) l
def amt (t:BT (List (List AV×AV))) (f:Nat) (args:List AV):Option AV:=au (sP t f) fun l=>amz l args
end
theorem wJ: ∀{l:List (List AV×AV)} {args:List AV} {v:AV},amz l args=some v→(args,v)∈l
 |[],args,v,e=>by cases e
 |p::l,args,v,e=>by
  have e:bq (AV.same (.agg p.1) (.agg args)) (some p.2) (amz l args)=some v:=e
  cases h:AV.same (.agg p.1) (.agg args) with
  |true=>
   rw [h] at e
   cases e
   rw [←iS h]
   simp
  |false=>rw [h] at e;exact List.mem_cons_of_mem _ (wJ e)
theorem Inv.aF {C C':Cx} (hg:C'.gl=C.gl) {ok:Nat→Prop} {w:World} {ρ:Rho} {h:AH} (I:Inv C ok w ρ h):Inv C' ok w ρ h:=
 ⟨I.okb,I.dom,I.live,I.inj,fun g cs e=>I.gl g cs (by rw [←hg];exact e)⟩
theorem iE.aF {P:Program} {C C':Cx} (hg:C'.gl=C.gl) {f:Nat} {args:List AV} {h:AH} {r:AV} {h':AH} (R:iE P C f args h r h'):iE P C' f args h r h':=
 ⟨R.1,fun ok w ρ us I hv=>(R.2 ok w ρ us (I.aF hg.symm) hv).mono fun e w' ⟨u,ok',ρ',h1,h2,h3,h4⟩=>⟨u,ok',ρ',h1,h2,h3.aF hg,h4⟩⟩
theorem aE.aF {P:Program} {C C':Cx} (hg:C'.gl=C.gl) {f:Nat} {args:List AV} {v:AV} (R:aE P C f args v):aE P C' f args v:=
 ⟨R.1,R.2.1,fun ok w us I hv=>(R.2.2 ok w us (I.aF hg.symm) hv).mono fun e w' ⟨u,ok',h1,h2,h3,h4⟩=>⟨u,ok',h1,h2,h3.aF hg,h4⟩⟩
theorem aA {P:Program} {C:Cx} (X:aX P C) {n f:Nat} {args:List AV} {v:AV} (e:au (runG C n f args []) (lL C f [])=some (v,[])) (hl:v.lt 0=true):aE P C f args v:=by
 obtain ⟨⟨r,h1⟩,e1,e2⟩:=ag e
 obtain ⟨q1,q2⟩:=tz X n f args [] r h1 e1
 refine ⟨q1,hl,fun ok w us I hv=>(q2 ok w ρ0 us I hv).mono fun en w'=>?_⟩
 rintro ⟨u,ok',ρ',rfl,E,I',hv'⟩
 obtain ⟨ok2,ρ2,E2,I2,V2⟩:=xA I E I' hv' e2
 have hz: ∀n r,ρ2 n=some r→False:=fun n r e=>absurd (I2.dom n r e).1 (Nat.not_lt_zero n)
 have hρ:ρ2=ρ0:=by
  funext n
  cases h:ρ2 n with
  |none=>rfl
  |some r=>exact (hz n r h).elim
 subst hρ
 exact ⟨u,ok2,rfl,E2,I2,V2⟩
def bP (P:Program) (C:Cx) (t:BT (List (List AV×AV))):Prop:=jD (fun f l=>∀p∈l,aE P C f p.1 p.2) t
theorem bP.rn {P:Program} {C:Cx} {t:BT (List (List AV×AV))} (h:bP P C t): ∀f args v,amt t f args=some v→aE P C f args v:=by
 intro f args v e
 obtain ⟨l,e1,e2⟩:=ag e
 exact jD.get h f l e1 (args,v) (wJ e2)
noncomputable def Cx.told (C:Cx) (t:BT (List (List AV×AV))):Cx:={C with rn:=amt t}
theorem nN (C:Cx) (t:BT (List (List AV×AV))):(C.told t).gl=C.gl:=rfl
theorem aX.told {P:Program} {C:Cx} (X:aX P C) {t:BT (List (List AV×AV))} (h:bP P C t):aX P (C.told t):=
 ⟨X.ty,X.one,X.fl,X.fn,fun f g e args h v h' k ok w ρ us I hv=>by
  obtain ⟨u,w',ok',ρ',h1,h2,h3,h4⟩:=X.ext f g e args h v h' k ok w ρ us (I.aF (nN C t).symm) hv
  exact ⟨u,w',ok',ρ',h1,h2,h3.aF (nN C t),h4⟩,
  fun f args v e=>(h.rn f args v e).aF (nN C t),
  fun f g e run H args h r h' k=>(X.orc f g e run (fun f args h r h' k=>(H f args h r h' k).aF (nN C t).symm) args h r h' k).aF (nN C t),X.mixed,X.sq⟩
theorem bP.aF {P:Program} {C C':Cx} (hg:C'.gl=C.gl) {t:BT (List (List AV×AV))} (h:bP P C t):bP P C' t:=by
 induction t with
 |nl=>trivial
 |lf k l=>exact fun p hp=>(h p hp).aF hg
 |nd m a b iha ihb=>exact ⟨iha h.1,ihb h.2⟩
abbrev Ent:=List AV×AH×AV×AH
noncomputable def akp (l:List Ent) (args:List AV) (h:AH):Option (AV×AH):=List.rec (motive:=fun _=>Option (AV×AH)) none (fun p _ ih=>bq (AV.same (.agg p.1) (.agg args)) (bq (gm p.2.1 h) (some p.2.2) ih) ih) l
theorem uI: ∀{l:List Ent} {args:List AV} {h:AH} {x:AV×AH},akp l args h=some x→(args,h,x)∈l
 |[],args,h,x,e=>by cases e
 |p::l,args,h,x,e=>by
  have e:bq (AV.same (.agg p.1) (.agg args)) (bq (gm p.2.1 h) (some p.2.2) (akp l args h)) (akp l args h)=some x:=e
  cases h1:AV.same (.agg p.1) (.agg args) with
  |true=>
   rw [h1,aw] at e
   cases h2:gm p.2.1 h with
   |true=>
    rw [h2,aw] at e
    cases e
    rw [←iS h1,←mT h2]
    simp
   |false=>rw [h2] at e;exact List.mem_cons_of_mem _ (uI e)
  |false=>rw [h1] at e;exact List.mem_cons_of_mem _ (uI e)
def kZ (P:Program) (C:Cx) (t:BT (List Ent)):Prop:=jD (fun f l=>∀p∈l,iE P C f p.1 p.2.1 p.2.2.1 p.2.2.2) t
theorem kZ.aF {P:Program} {C C':Cx} {t:BT (List Ent)} (h:kZ P C t) (hg:C'.gl=C.gl):kZ P C' t:=by
 induction t with
 |nl=>trivial
 |lf k l=>exact fun p hp=>(h p hp).aF hg
 |nd m a b iha ihb=>exact ⟨iha h.1,ihb h.2⟩
noncomputable def Cx.heard (C:Cx) (t:BT (List Ent)):Cx:={C with orc:=fun f=>Option.rec (motive:=fun _=>Option (Run→List AV→AH→Option (AV×AH))) (C.orc f) (fun l=>some fun _=>akp l) (sP t f)}
theorem iY (C:Cx) (t:BT (List Ent)):(C.heard t).gl=C.gl:=rfl
theorem aX.heard {P:Program} {C:Cx} (X:aX P C) {t:BT (List Ent)} (h0:kZ P C t):aX P (C.heard t):=
 ⟨X.ty,X.one,X.fl,X.fn,fun f g e args h v h' k ok w ρ us I hv=>by
  obtain ⟨u,w',ok',ρ',h1,h2,h3,h4⟩:=X.ext f g e args h v h' k ok w ρ us (I.aF (iY C t).symm) hv
  exact ⟨u,w',ok',ρ',h1,h2,h3.aF (iY C t),h4⟩,
  fun f args v e=>(X.rn f args v e).aF (iY C t),
  fun f g e run H args h r h' k=>by
   have e:Option.rec (motive:=fun _=>Option (Run→List AV→AH→Option (AV×AH))) (C.orc f) (fun l=>some fun _=>akp l) (sP t f)=some g:=e
   cases hb:sP t f with
   |some l=>
    rw [hb] at e
    cases e
    exact (jD.get h0 f l hb (args,h,r,h') (uI k)).aF (iY C t)
   |none=>
    rw [hb] at e
    exact (X.orc f g e run (fun f args h r h' k=>(H f args h r h' k).aF (iY C t).symm) args h r h' k).aF (iY C t),X.mixed,X.sq⟩
end Go.Proofs.YteapfopaiocpeaaGreatDoor
namespace Go.Proofs.YteapfopaiocpeaaGreatDoor
set_option linter.unusedSimpArgs false
set_option linter.unusedVariables false
set_option linter.unnecessarySimpa false
theorem abL (w:World) (r j:Nat) (arr:Array Value) (e:TypeId) (fr:Nat×Nat) (v:Value) (h:w.heap[r]? =some (.cells arr e fr)):w.setCell ⟨r,j,none⟩ v=w.setRow r (arr.setIfInBounds j v):=by
 unfold World.setCell World.setRow
 congr 1
 apply Array.ext_getElem?
 intro i
 simp only [Array.getElem?_modify]
 split
 ·subst_vars
  rw [h]
  simp
 ·rfl
section
variable {P:Program} {C:Cx} {ok:Nat→Prop} {w:World} {ρ:Rho} {h:AH}
theorem fE (I:Inv C ok w ρ h) {b o y:Nat} {cs:List AV} {c:AV} (hb:ae h b=some (.cells cs y)) (hc:dL cs o=some c):
 ∃r u,ρ b=some r∧w.cell? ⟨r,o,none⟩=some u∧V ok w c ρ u∧w.frozen? ⟨r,o,none⟩=false∧
  ∀c' u',V ok w c' ρ u'→Ext ok w ρ h ok (w.setCell ⟨r,o,none⟩ u') ρ (bp (some (.cells (bp c' cs o) y)) h b)∧Inv C ok (w.setCell ⟨r,o,none⟩ u') ρ (bp (some (.cells (bp c' cs o) y)) h b):=by
 obtain ⟨r,arr,e,fr,k1,k2,k3,k4,k5,k6,k7⟩:=tG I hb
 obtain ⟨q,g1,g2,arr0,e0,fr0,g3,g4,g5,g6⟩:=I.live b _ hb
 rw [k1] at g1;cases g1
 rw [k3] at g3;cases g3
 rw [bt] at hc
 obtain ⟨u,c1,c2⟩:=xW g5 hc
 rw [Nat.zero_add] at c1
 have hlt:o<cs.length:=(List.getElem?_eq_some_iff.1 hc).1
 refine ⟨r,u,k1,c1,c2,?_,fun c' u' hv=>?_⟩
 ·obtain ⟨lo,hi⟩:=fr
  have:=g4 o (by omega)
  simp [World.frozen?,k3]
  simp at this
  omega
 ·rw [abL w r o arr _ fr _ k3]
  refine k7 (bp c' cs o) (arr.setIfInBounds o u') (by simp) ?_
  rw [cn,List.length_set,Array.toList_setIfInBounds,oB]
  exact tZ o k5 hv
end
noncomputable section
def fU (h:AH) (b o:Nat) (f:AV→(AV→AH)→Option (AV×AH)):Option (AV×AH):=
 match ae h b with
 |some (.cells cs y)=>au (dL cs o) fun c=>f c fun v=>bp (some (.cells (bp v cs o) y)) h b
 |_=>none
def mW (m:Nat) (c:AV) (f:Int→Option (AV×AH)):Option (AV×AH):=
 match c with
 | .int k n=>bq (Nat.beq k m) (f n) none
 |_=>none
def pC (m:Nat) (args:List AV) (h:AH):Option (AV×AH):=
 match args with
 |[.pto b o]=>fU h b o fun c _=>mW m c fun n=>some (.int m n,h)
 |_=>none
def tW (m:Nat) (args:List AV) (h:AH):Option (AV×AH):=
 match args with
 |[.pto b o,x]=>fU h b o fun c s=>mW m c fun _=>mW m x fun n=>some (.tup [],s (.int m n))
 |_=>none
def mV (m:Nat) (args:List AV) (h:AH):Option (AV×AH):=
 match args with
 |[.pto b o,x]=>fU h b o fun c s=>mW m c fun z=>mW m x fun n=>some (.int m (aZ m (fu z n)),s (.int m (aZ m (fu z n))))
 |_=>none
def acw (m:Nat) (args:List AV) (h:AH):Option (AV×AH):=
 match args with
 |[.pto b o,x,x']=>fU h b o fun c s=>mW m c fun z=>mW m x fun n=>mW m x' fun n'=>bq (cj z n) (some (.bool true,s (.int m n'))) (some (.bool false,h))
 |_=>none
end
theorem dO {h:AH} {b o:Nat} {f:AV→(AV→AH)→Option (AV×AH)} {r:AV×AH} (e:fU h b o f=some r): ∃cs y c,ae h b=some (.cells cs y)∧dL cs o=some c∧f c (fun v=>bp (some (.cells (bp v cs o) y)) h b)=some r:=by
 unfold fU at e
 split at e
 ·rename_i cs y hb
  obtain ⟨c,e1,e2⟩:=ag e
  exact ⟨cs,y,c,hb,e1,e2⟩
 ·cases e
theorem de {m:Nat} {c:AV} {f:Int→Option (AV×AH)} {r:AV×AH} (e:mW m c f=some r): ∃n,c= .int m n∧f n=some r:=by
 unfold mW at e
 split at e
 ·rename_i k n
  obtain ⟨e1,e2⟩:=ax e
  obtain rfl:=Nat.eq_of_beq_eq_true e1
  exact ⟨n,rfl,e2⟩
 ·cases e
section
variable {P:Program} {C:Cx} {f:Nat} {k:IntKind}
theorem mZ {ok:Nat→Prop} {w:World} {ρ:Rho} {n:Int} {u:Value} (h:V ok w (.int (cO k) n) ρ u):u= .int k n:=by
 simp only [V] at h
 obtain ⟨k',h1,rfl⟩:=h
 cases k<;>cases k'<;>first|rfl|(exact absurd h1 (by decide))
theorem gP {ok:Nat→Prop} {w:World} {ρ:Rho} {n:Int}:V ok w (.int (cO k) n) ρ (.int k n):=by
 simp only [V]
 exact ⟨k,rfl,rfl⟩
theorem tK {w:World} {ad:Addr} {v:Int} (hc:w.cell? ad=some (.int k v)):(Extern.Atomic.loadT (.int k) #[.pointer (some ad)]).run P w= .ok (.int k v) w:=by
 change Sem.run P (do Extern.Atomic.read (.int k) (←asAddr (.pointer (some ad)))) w=_
 simp [Extern.Atomic.read,asAddr,hc,Result.andThen]
theorem sU {w:World} {ad:Addr} {v n:Int} (hc:w.cell? ad=some (.int k v)) (hz:w.frozen? ad=false):(Extern.Atomic.storeT #[.pointer (some ad),.int k n]).run P w= .ok (.tuple #[]) (w.setCell ad (.int k n)):=by
 change Sem.run P (do
  store (←asAddr (.pointer (some ad))) (.int k n) .atomic
  pure Extern.Atomic.none_) w=_
 simp [Extern.Atomic.none_,asAddr,hc,hz,run_store P w ad (.int k n) .atomic rfl,Result.andThen]
theorem agM (R:hO P f (Extern.Atomic.loadT (.int k))):oy P C f (pC (cO k)):=by
 intro args h v h' e ok w ρ us I hv
 unfold pC at e
 split at e
 ·rename_i b o
  obtain ⟨cs,y,c,e1,e2,e3⟩:=dO e
  obtain ⟨n,rfl,e4⟩:=de e3
  cases e4
  obtain ⟨r,u,g1,g2,g3,g4,g5⟩:=fE I e1 e2
  simp only [VL] at hv
  obtain ⟨u1,_,rfl,v1,rfl⟩:=hv
  simp only [V] at v1
  obtain ⟨r',h1,rfl⟩:=v1
  rw [g1] at h1;cases h1
  cases mZ g3
  exact ⟨_,w,ok,ρ,by rw [R.run,tK g2];rfl,Ext.refl _ _ _ _,I,gP⟩
 ·cases e
theorem ab7 (R:hO P f Extern.Atomic.storeT):oy P C f (tW (cO k)):=by
 intro args h v h' e ok w ρ us I hv
 unfold tW at e
 split at e
 ·rename_i b o x
  obtain ⟨cs,y,c,e1,e2,e3⟩:=dO e
  obtain ⟨z,rfl,e4⟩:=de e3
  obtain ⟨n,rfl,e5⟩:=de e4
  cases e5
  obtain ⟨r,u,g1,g2,g3,g4,g5⟩:=fE I e1 e2
  simp only [VL] at hv
  obtain ⟨u1,_,rfl,v1,u2,_,rfl,v2,rfl⟩:=hv
  simp only [V] at v1
  obtain ⟨r',h1,rfl⟩:=v1
  rw [g1] at h1;cases h1
  cases mZ g3
  cases mZ v2
  obtain ⟨E,I'⟩:=g5 (.int (cO k) n) (.int k n) gP
  exact ⟨_,_,ok,ρ,by rw [R.run,sU g2 g4];rfl,E,I',by simp only [V];exact ⟨#[],rfl,by simp only [VL]⟩⟩
 ·cases e
theorem um (hk: ∀n,aZ (cO k) n=k.wrap n) (R:hO P f (Extern.Atomic.update (Op.intArith .add) k true)):oy P C f (mV (cO k)):=by
 intro args h v h' e ok w ρ us I hv
 unfold mV at e
 split at e
 ·rename_i b o x
  obtain ⟨cs,y,c,e1,e2,e3⟩:=dO e
  obtain ⟨z,rfl,e4⟩:=de e3
  obtain ⟨n,rfl,e5⟩:=de e4
  cases e5
  obtain ⟨r,u,g1,g2,g3,g4,g5⟩:=fE I e1 e2
  simp only [VL] at hv
  obtain ⟨u1,_,rfl,v1,u2,_,rfl,v2,rfl⟩:=hv
  simp only [V] at v1
  obtain ⟨r',h1,rfl⟩:=v1
  rw [g1] at h1;cases h1
  cases mZ g3
  cases mZ v2
  have hi:fu z n=z+n:=by cases z<;>cases n<;>simp [fu]<;>rfl
  obtain ⟨E,I'⟩:=g5 (.int (cO k) (aZ (cO k) (fu z n))) (.int k (k.wrap (z+n))) (by rw [hk,hi];exact gP)
  exact ⟨_,_,ok,ρ,by rw [R.run,Go.Conc.run_add_entry g2 g4];rfl,E,I',by rw [hk,hi];exact gP⟩
 ·cases e
theorem air (R:hO P f (Extern.Atomic.casT (.int k))):oy P C f (acw (cO k)):=by
 intro args h v h' e ok w ρ us I hv
 unfold acw at e
 split at e
 ·rename_i b o x x'
  obtain ⟨cs,y,c,e1,e2,e3⟩:=dO e
  obtain ⟨z,rfl,e4⟩:=de e3
  obtain ⟨n,rfl,e5⟩:=de e4
  obtain ⟨n',rfl,e6⟩:=de e5
  obtain ⟨r,u,g1,g2,g3,g4,g5⟩:=fE I e1 e2
  simp only [VL] at hv
  obtain ⟨u1,_,rfl,v1,u2,_,rfl,v2,u3,_,rfl,v3,rfl⟩:=hv
  simp only [V] at v1
  obtain ⟨r',h1,rfl⟩:=v1
  rw [g1] at h1;cases h1
  cases mZ g3
  cases mZ v2
  cases mZ v3
  have hi:cj z n=decide (z=n):=by
   cases z<;>cases n<;>simp [cj]<;>(try (rw [Bool.eq_iff_iff];simp))<;>(try omega)
  rw [hi] at e6
  by_cases hz:z=n
  ·subst hz
   rw [decide_eq_true rfl,aw] at e6
   cases e6
   obtain ⟨E,I'⟩:=g5 (.int (cO k) n') (.int k n') gP
   exact ⟨_,_,ok,ρ,by rw [R.run];show ((Extern.Atomic.casT (.int k) #[.pointer (some _),.int k z,.int k n']).run P w).andThen _=_;rw [Go.Conc.casT_eq,Go.Conc.run_cas_hit_entry g2 g4];rfl,E,I',by simp only [V]⟩
  ·rw [decide_eq_false hz,ay] at e6
   cases e6
   exact ⟨_,_,ok,ρ,by rw [R.run];show ((Extern.Atomic.casT (.int k) #[.pointer (some _),.int k n,.int k n']).run P w).andThen _=_;rw [Go.Conc.casT_eq,Go.Conc.run_cas_miss_entry g2 g4 hz];rfl,Ext.refl _ _ _ _,I,by simp only [V]⟩
 ·cases e
end
end Go.Proofs.YteapfopaiocpeaaGreatDoor
namespace Go.Proofs.YteapfopaiocpeaaGreatDoor
noncomputable section
def ai6 (run:Nat→List AV→AH→Option (AV×AH)) (args:List AV) (h:AH):Option (AV×AH):=
 match args with
 |[.pto b o,.fn f [] [.pto q z]]=>
  fU h b o fun c0 _=>mW 4294967295 c0 fun d=>bq (cj d 0) (fU h b (Nat.succ o) fun c1 s1=>mW 2147483647 c1 fun m=>bq (cj m 0)
   (au (run f [.pto q z] (s1 (.int 2147483647 1))) fun x=>fU x.2 b o fun c2 s2=>mW 4294967295 c2 fun _=>
    fU (s2 (.int 4294967295 1)) b (Nat.succ o) fun c3 s3=>mW 2147483647 c3 fun m'=>bq (cj m' 1) (some (.tup [],s3 (.int 2147483647 0))) none) none) none
 |_=>none
end
end Go.Proofs.YteapfopaiocpeaaGreatDoor
namespace Go.Proofs.YteapfopaiocpeaaGreatDoor
set_option linter.unusedSimpArgs false
set_option linter.unusedVariables false
set_option linter.unnecessarySimpa false
noncomputable section
end
theorem arq: ∀{m:Nat} {k:IntKind},(∀n,qj m n=k.wrap n)→(∀n:Nat,n≤m→k.wrap n=n)→ ∀n,aZ m n=k.wrap n:=by
 intro m k hk hm n
 cases n with
 |ofNat a=>
  show bq (Nat.ble a m) (Int.ofNat a) (qj m (.ofNat a))=_
  by_cases h:a≤m
  ·rw [Nat.ble_eq_true_of_le h];exact (hm a h).symm
  ·have:Nat.ble a m=false:=by rw [Bool.eq_false_iff];intro c;exact h (Nat.le_of_ble_eq_true c)
   rw [this];exact hk _
 |negSucc a=>exact hk _
theorem aiS (k:IntKind) (n:Int):aZ (cO k) n=k.wrap n:=by
 cases k<;>(refine arq (fun _=>rfl) (fun n hn=>?_) n;simp [cO] at hn;simp [IntKind.wrap,IntKind.min,IntKind.max,IntKind.signed,IntKind.bits];omega)
end Go.Proofs.YteapfopaiocpeaaGreatDoor
namespace Go.Proofs.YteapfopaiocpeaaGreatDoor
set_option linter.unusedSimpArgs false
set_option linter.unusedVariables false
set_option linter.unnecessarySimpa false
def TyL (T:TypeId→List AV→Prop):List TypeId→List AV→Prop
 |[],as=>as=[]
 |t::ts,as=>∃a r,as=a++r∧T t a∧TyL T ts r
def TyC (P:Program):Nat→TypeId→List AV→Prop
 |0,_,_=>False
 |n+1,t,as=>as.length=P.cellsOf t∧match P.underlying t with
  |some .bool=>∃b,as=[.bool b]
  |some (.int k)=>∃x,as=[.int (cO k) x]∧(Lit.int k x).wf=true
  |some .string=>∃l,as=[.str l]∧(∀b∈l,b<256)∧l.length≤maxLen
  |some (.struct fs)=>TyL (TyC P n) (fs.toList.map (·.type)) as
  |some (.array m e)=>TyL (TyC P n) (List.replicate m e) as
  |some (.slice e)=>as=[.nils]∨as=[.sle]∨ ∃cs len,as=[.slp cs len]∧0<len∧len≤maxLen∧TyL (TyC P n) (List.replicate len e) cs
  |_=>False
section
variable {P:Program} {w:World} {ok:Nat→Prop}
theorem TyC.len {n:Nat} {t:TypeId} {as:List AV} (h:TyC P n t as):as.length=P.cellsOf t:=by
 cases n with
 |zero=>exact h.elim
 |succ n=>exact h.1
theorem TyL.len {n:Nat}: ∀{ts:List TypeId} {as:List AV},TyL (TyC P n) ts as→as.length=(ts.map P.cellsOf).sum
 |[],as,h=>by rw [show as=[] from h];rfl
 |t::ts,as,h=>by
  obtain ⟨a,r,rfl,h1,h2⟩:=h
  rw [List.length_append,h1.len,TyL.len h2];simp
theorem ye (c:Nat): ∀n,(List.replicate n c).sum=n*c
 |0=>by simp
 |n+1=>by rw [List.replicate_succ,List.sum_cons,ye c n,Nat.succ_mul];omega
theorem TyL.elem {T:TypeId→List AV→Prop} {e:TypeId} {c:Nat} (hc: ∀as,T e as→as.length=c): ∀{len:Nat} {cs:List AV},TyL T (List.replicate len e) cs→ ∀i,i<len→T e ((cs.drop (i*c)).take c)
 |0,_,_,i,hi=>by omega
 |len+1,cs,h,i,hi=>by
  rw [List.replicate_succ] at h
  obtain ⟨a,r,rfl,h1,h2⟩:=h
  have hl:=hc a h1
  cases i with
  |zero=>simpa [←hl] using h1
  |succ i=>
   have:=TyL.elem hc h2 i (by omega)
   rw [show (i+1)*c=a.length+i*c by rw [Nat.succ_mul,hl];omega,List.drop_append,List.drop_eq_nil_of_le (by omega),List.nil_append,Nat.add_sub_cancel_left]
   exact this
theorem build (T:TypeId→List AV→Prop): ∀(ts:List TypeId) (cs:List Value),cs.length=(ts.map P.cellsOf).sum→
 (∀(j:Nat) t,ts[j]? =some t→ ∃as,VL ok w as ρ0 ((cs.drop ((ts.take j).map P.cellsOf).sum).take (P.cellsOf t))∧T t as)→ ∃as,VL ok w as ρ0 cs∧TyL T ts as
 |[],cs,hl,_=>by
  obtain rfl:cs=[]:=by simpa using hl
  exact ⟨[],by simp [VL],rfl⟩
 |t::ts,cs,hl,H=>by
  obtain ⟨a,ha,hT⟩:=H 0 t rfl
  obtain ⟨r,hr,hR⟩:=build T ts (cs.drop (P.cellsOf t)) (by simp at hl ⊢;omega) (fun j u hj=>by
   obtain ⟨as,h1,h2⟩:=H (j+1) u (by simpa using hj)
   refine ⟨as,?_,h2⟩
   rw [List.drop_drop]
   simpa using h1)
  refine ⟨a++r,?_,a,r,rfl,hT,hR⟩
  have:=gE ha hr
  simpa using this
theorem aeC {ok:Nat→Prop} {w:World}: ∀{a b:List AV} {ρ:Rho} {r p:Nat},VAt ok w a ρ r p→VAt ok w b ρ r (p+a.length)→VAt ok w (a++b) ρ r p
 |[],b,ρ,r,p,_,h=>by simpa using h
 |x::a,b,ρ,r,p,h1,h2=>by
  simp only [VAt,List.cons_append] at h1 ⊢
  exact ⟨h1.1,aeC h1.2 (by rw [show p+1+a.length=p+(x::a).length by simp;omega];exact h2)⟩
theorem pW {ok:Nat→Prop} {w:World} {ρ:Rho} {r:Nat}: ∀{as:List AV} {us:List Value} {p:Nat},VL ok w as ρ us→(∀i (h:i<us.length),w.cell? ⟨r,p+i,none⟩=some us[i])→VAt ok w as ρ r p
 |[],us,p,_,_=>by simp only [VAt]
 |a::as,us,p,h,H=>by
  simp only [VL] at h
  obtain ⟨u,rest,rfl,h1,h2⟩:=h
  simp only [VAt]
  refine ⟨⟨u,H 0 (by simp),h1⟩,pW h2 fun i hi=>?_⟩
  have:=H (i+1) (by simpa using hi)
  rw [show p+1+i=p+(i+1) by omega]
  simpa using this
theorem aeb (T:TypeId→List AV→Prop) (e:TypeId) (c r:Nat) (hc: ∀as,T e as→as.length=c): ∀(len p:Nat),
 (∀i,i<len→ ∃us as,us.length=c∧(∀j (h:j<us.length),w.cell? ⟨r,p+i*c+j,none⟩=some us[j])∧VL ok w as ρ0 us∧T e as)→ ∃cs,VAt ok w cs ρ0 r p∧TyL T (List.replicate len e) cs
 |0,p,_=>⟨[],by simp only [VAt],rfl⟩
 |len+1,p,H=>by
  obtain ⟨us,as,h1,h2,h3,h4⟩:=H 0 (by omega)
  obtain ⟨cs,k1,k2⟩:=aeb T e c r hc len (p+c) (fun i hi=>by
   obtain ⟨us,as,h1,h2,h3,h4⟩:=H (i+1) (by omega)
   refine ⟨us,as,h1,fun j hj=>?_,h3,h4⟩
   rw [show p+c+i*c+j=p+(i+1)*c+j by rw [Nat.succ_mul];omega]
   exact h2 j hj)
  refine ⟨as++cs,aeC (pW h3 fun i hi=>?_) ?_,?_⟩
  ·simpa using h2 i hi
  ·rw [hc as h4];exact k1
  ·rw [List.replicate_succ];exact ⟨as,cs,rfl,h4,k2⟩
theorem xq {w:World} {base:Nat} {a:Addr} {n:Nat} {us:List Value} (h:w.cells? base a n=some us):us.length=n∧ ∀j (hj:j<us.length),w.cell? (a.add j)=some us[j]:=by
 unfold World.cells? at h
 split at h
 ·have h1:=mapM_some_length h
  refine ⟨by simpa using h1,fun j hj=>?_⟩
  have:=mapM_some_get h j j (by rw [List.getElem?_range (by simp at h1;omega)])
  rw [this,List.getElem?_eq_getElem hj]
 ·cases h
def qm (P:Program) (ts:List TypeId) (t:TypeId):Bool:=decide (t<P.types.size)&&match P.underlying t with
 |some .bool|some .string=>P.cellsOf t==1
 |some (.int _)=>P.cellsOf t==1
 |some (.struct fs)=>fs.toList.all fun f=>ts.contains f.type
 |some (.array _ e)=>ts.contains e
 |some (.slice e)=>P.cellsOf t==1&&ts.contains e&&decide (0<P.cellsOf e)
 |_=>false
def tx (P:Program) (ts:List TypeId):Bool:=ts.all (qm P ts)
theorem uj {ts:List TypeId} (h:tx P ts=true) {t:TypeId} (ht:t∈ts):qm P ts t=true:=List.all_eq_true.1 h t ht
variable {H:Type} {enc:TypeId×Value→H} {base:Nat} {spare:Nat→Bool}
theorem aoz (hl:laidOutB P=true) {ts:List TypeId} (hc:tx P ts=true): ∀(n:Nat) (t:TypeId) (cs:List Value) (x:DataW H×List MemPlace),t∈ts→
 DataW.trod enc P w base spare true n t cs=some x→(∀p∈x.2,p.block<w.heap.size)→ ∃as,VL (· <w.heap.size) w as ρ0 cs∧TyC P n t as:=by
 intro n
 induction n with
 |zero=>intro t cs x ht h _;simp [DataW.trod] at h
 |succ n ih=>
  intro t cs x ht h hp
  have hr:=uj hc ht
  unfold qm at hr
  rw [Bool.and_eq_true] at hr
  obtain ⟨hlt,hr⟩:=hr
  have hlt:=of_decide_eq_true hlt
  cases hu:P.underlying t with
  |none=>rw [hu] at hr;cases hr
  |some d=>
   rw [hu] at hr
   cases d with
   |bool=>
    obtain ⟨b,rfl,_⟩:=DataW.trod_bool hu h
    refine ⟨[.bool b],by simp [VL,V],(beq_iff_eq.1 hr).symm,?_⟩
    rw [hu];exact ⟨b,rfl⟩
   |int k=>
    obtain ⟨m,rfl,_,hw⟩:=DataW.trod_int hu h
    refine ⟨[.int (cO k) m],by simp [VL,V],(beq_iff_eq.1 hr).symm,?_⟩
    rw [hu];exact ⟨m,rfl,hw⟩
   |string=>
    obtain ⟨s,rfl,_,hs⟩:=DataW.trod_string hu h
    refine ⟨[.str (s.data.toList.map UInt8.toNat)],by simp [VL,V],(beq_iff_eq.1 hr).symm,?_⟩
    rw [hu]
    refine ⟨_,rfl,?_,?_⟩
    ·intro b hb
     obtain ⟨c,_,rfl⟩:=List.mem_map.1 hb
     exact c.toNat_lt
    ·simpa using hs
   |struct fs=>
    obtain ⟨xs,m,hm,rfl,hlen,hx,hel⟩:=DataW.trod_struct hu h
    obtain rfl:=Nat.succ.inj hm
    obtain ⟨_,h2,h3⟩:=kid_struct hl hlt hu
    have hin: ∀f∈fs.toList,f.type∈ts:=fun f hf=>by simpa using List.all_eq_true.1 hr f hf
    obtain ⟨as,hv,hT⟩:=build (P:=P) (w:=w) (ok:=(· <w.heap.size)) (TyC P n) (fs.toList.map (·.type)) cs (by rw [hlen,h2,List.map_map];rfl) (fun j u hj=>by
     simp only [List.getElem?_map,Option.map_eq_some_iff] at hj
     obtain ⟨f,hf,rfl⟩:=hj
     have hj':j<xs.length:=by rw [hx];simpa using (List.getElem?_eq_some_iff.1 hf).1
     have e:=hel j f (by simpa using hf)
     rw [List.getElem?_eq_getElem hj',h3 j f hf] at e
     obtain ⟨as,k1,k2⟩:=ih f.type _ _ (hin f (List.mem_of_getElem? hf)) e (fun p hp'=>hp p (List.mem_flatMap.2 ⟨_,List.getElem_mem hj',hp'⟩))
     refine ⟨as,?_,k2⟩
     rw [←List.map_take,List.map_map]
     exact k1)
    refine ⟨as,hv,by rw [←bQ hv];exact hlen,?_⟩
    rw [hu];exact hT
   |array m e=>
    obtain ⟨xs,k,hk,rfl,hlen,hx,hel⟩:=DataW.trod_array hu h
    obtain rfl:=Nat.succ.inj hk
    have h2:=(kid_array hl hlt hu).2
    obtain ⟨as,hv,hT⟩:=build (P:=P) (w:=w) (ok:=(· <w.heap.size)) (TyC P n) (List.replicate m e) cs (by rw [hlen,h2,List.map_replicate,ye]) (fun j u hj=>by
     rw [List.getElem?_replicate] at hj
     by_cases hj1:j<m
     case neg=>rw [if_neg hj1] at hj;cases hj
     rw [if_pos hj1] at hj
     cases hj
     have hj':j<xs.length:=by omega
     have e:=hel j hj1
     rw [List.getElem?_eq_getElem hj'] at e
     obtain ⟨as,k1,k2⟩:=ih _ _ _ (by simpa using hr) e (fun p hp'=>hp p (List.mem_flatMap.2 ⟨_,List.getElem_mem hj',hp'⟩))
     refine ⟨as,?_,k2⟩
     rw [List.take_replicate,List.map_replicate,ye,show min j m=j by omega]
     exact k1)
    refine ⟨as,hv,by rw [←bQ hv];exact hlen,?_⟩
    rw [hu];exact hT
   |slice e=>
    rw [Bool.and_eq_true,Bool.and_eq_true] at hr
    obtain ⟨⟨hr1,hr2⟩,hr3⟩:=hr
    have hr3:=of_decide_eq_true hr3
    rcases DataW.trod_slice hu h with ⟨rfl,_⟩|⟨a,len,cap,elems,rest,k,hk,rfl,rfl,hb,hlc,hcm,hn,hel,_,_⟩
    ·refine ⟨[.nils],by simp [VL,V],(beq_iff_eq.1 hr1).symm,?_⟩
     rw [hu];exact .inl rfl
    obtain rfl:=Nat.succ.inj hk
    by_cases h0:len=0
    ·subst h0
     refine ⟨[.sle],by simp [VL,V],(beq_iff_eq.1 hr1).symm,?_⟩
     rw [hu];exact .inr (.inl rfl)
    obtain ⟨b,off,spot⟩:=a
    have hfirst:=hel 0 (by omega)
    rw [List.getElem?_eq_getElem (by omega),Option.bind_eq_some_iff] at hfirst
    obtain ⟨us0,hc0,_⟩:=hfirst
    have hspot:spot=none:=by
     obtain ⟨g1,g2⟩:=xq hc0
     simpa [Addr.add] using World.cell?_spot (g2 0 (by omega))
    subst hspot
    have hblt:b<w.heap.size:=by
     have hmem:MemPlace.cell b off∈MemPlace.row ⟨b,off,none⟩ ((elems.length+rest.length)*P.cellsOf e):=by
      refine List.mem_map.2 ⟨0,List.mem_range.2 (Nat.mul_pos (by omega) hr3),rfl⟩
     exact hp _ (List.mem_append_left _ hmem)
    obtain ⟨as,k1,k2⟩:=aeb (w:=w) (ok:=(· <w.heap.size)) (TyC P n) e (P.cellsOf e) b (fun as h=>h.len) len off (fun i hi=>by
     have e1:=hel i hi
     rw [List.getElem?_eq_getElem (by omega),Option.bind_eq_some_iff] at e1
     obtain ⟨us,c1,c2⟩:=e1
     obtain ⟨g1,g2⟩:=xq c1
     obtain ⟨as,v1,v2⟩:=ih e us _ (by simpa using hr2) c2 (fun p hp'=>hp p (List.mem_append_right _ (List.mem_flatMap.2 ⟨_,List.mem_append_left _ (List.getElem_mem (by omega)),hp'⟩)))
     refine ⟨us,as,g1,fun j hj=>?_,v1,v2⟩
     have:=g2 j hj
     rwa [Go.WideShapes.add_plain,Go.WideShapes.add_plain] at this)
    refine ⟨[.slp as len],?_,(beq_iff_eq.1 hr1).symm,?_⟩
    ·simp only [VL,V]
     exact ⟨_,_,rfl,⟨b,off,cap,hblt,rfl,hlc,k1⟩,rfl⟩
    ·rw [hu];exact .inr (.inr ⟨as,len,rfl,by omega,by omega,k2⟩)
   |_=>cases hr
end
end Go.Proofs.YteapfopaiocpeaaGreatDoor
namespace Go.Proofs.YteapfopaiocpeaaGreatDoor
set_option linter.unusedSimpArgs false
set_option linter.unusedVariables false
set_option linter.unnecessarySimpa false
section
variable {C:Cx} {run:Run} {lp:Lp} {s:St} {h:AH} {κ:Ka}
theorem jr (a b:Nat):Nat.beq a b=decide (a=b):=by
 by_cases e:a=b
 ·subst e;simp
 ·have:Nat.beq a b=false:=by rw [Bool.eq_false_iff];intro c;exact e (Nat.eq_of_beq_eq_true c)
  rw [this];simp [e]
theorem bL (a b:Nat):Nat.ble a b=decide (a≤b):=by
 by_cases e:a≤b
 ·rw [Nat.ble_eq_true_of_le e];simp [e]
 ·have:Nat.ble a b=false:=by rw [Bool.eq_false_iff];intro c;exact e (Nat.le_of_ble_eq_true c)
  rw [this];simp [e]
theorem vS (a b:Nat):Nat.blt a b=decide (a<b):=bL _ _
theorem qA (a b:Int):cj a b=decide (a=b):=by
 cases a<;>cases b<;>simp [cj,jr]<;>omega
theorem xf (a b:Int):tJ a b=decide (a<b):=by
 cases a<;>cases b<;>simp [tJ,vS]<;>omega
theorem iltE (a b:Int):ilt a b=decide (a<b):=xf a b
theorem igtE (a b:Int):igt a b=decide (b<a):=xf b a
theorem ileE (a b:Int):ile a b=decide (a≤b):=by
 unfold ile;rw [xf];by_cases h:a≤b<;>simp [h]<;>omega
theorem igeE (a b:Int):ige a b=decide (b≤a):=by
 unfold ige;rw [xf];by_cases h:b≤a<;>simp [h]<;>omega
theorem ineE (a b:Int):ine a b=decide (a≠b):=by
 unfold ine;rw [qA];simp
theorem bf {α:Type} {p:Prop} [Decidable p] (h:p) (a b:α):bq (decide p) a b=a:=by rw [decide_eq_true h];rfl
theorem gy {α:Type} {p:Prop} [Decidable p] (h: ¬p) (a b:α):bq (decide p) a b=b:=by rw [decide_eq_false h];rfl
theorem aep (a b:Int):fu a b=a+b:=by
 cases a<;>cases b<;>simp [fu]<;>rfl
theorem aka (a b:Int):iT a b=a-b:=by
 cases a with
 |ofNat m=>cases b with
  |ofNat n=>
   show bq (Nat.ble n m) (Int.ofNat (Nat.sub m n)) (Int.sub (.ofNat m) (.ofNat n))=_
   rw [bL]
   by_cases h:n≤m
   ·rw [bf h]
    show ((m-n:Nat):Int)=(m:Int)-(n:Int)
    omega
   ·rw [gy h];rfl
  |negSucc n=>rfl
 |negSucc m=>rfl
theorem apS (a b:Int):sO a b=a*b:=by
 cases a<;>cases b<;>simp [sO]<;>rfl
theorem ahO (n:Int):qj 9223372036854775807 n=IntKind.i64.wrap n:=(rfl)
theorem ahh (n:Int):qj 18446744073709551615 n=IntKind.u64.wrap n:=(rfl)
theorem sB {n:Int} (h1: -9223372036854775808≤n) (h2:n≤9223372036854775807):IntKind.i64.wrap n=n:=by
 simp [IntKind.wrap,IntKind.min,IntKind.max,IntKind.signed,IntKind.bits];omega
theorem sj {n:Int} (h1:0≤n) (h2:n≤18446744073709551615):IntKind.u64.wrap n=n:=by
 simp [IntKind.wrap,IntKind.min,IntKind.max,IntKind.signed,IntKind.bits];omega
theorem aaH {m:Nat} {k:IntKind} (hk: ∀n,qj m n=k.wrap n) (hm: ∀n:Nat,n≤m→k.wrap n=n) (n:Int):aZ m n=k.wrap n:=by
 cases n with
 |ofNat a=>
  show bq (Nat.ble a m) (Int.ofNat a) (qj m (.ofNat a))=_
  rw [bL]
  by_cases h:a≤m
  ·rw [bf h];exact (hm a h).symm
  ·rw [gy h,hk]
 |negSucc a=>exact hk _
theorem bd {n:Int} (h1: -9223372036854775808≤n) (h2:n≤9223372036854775807):aZ 9223372036854775807 n=n:=by
 rw [aaH ahO (fun a ha=>sB (by omega) (by omega)),sB h1 h2]
theorem gz {n:Int} (h1:0≤n) (h2:n≤18446744073709551615):aZ 18446744073709551615 n=n:=by
 rw [aaH ahh (fun a ha=>sj (by omega) (by omega)),sj h1 h2]
theorem fB (t:Tms) (h:AH):fC (some (.st t h))=some (.nrm,⟨t,h⟩):=(rfl)
theorem qe (x:AV):aY x h κ=κ x h:=(rfl)
theorem mX (c:Bool) (a b:AV):fm (.bool c) a b h κ=κ (bq c a b) h:=(rfl)
theorem dP (y:Nat) (x:AV):gZ y x h κ=bq x.nb (κ (.pto h.length 0) (h++[some (.cells x.cells y)])) none:=by
 unfold gZ dY;rw [ah,aP]
theorem dC (b:Blk):dY h b κ=κ (.pto h.length 0) (h++[some b]):=by unfold dY;rw [ah,aP]
theorem cmp_eq (g:Int→Int→Bool) (k:Nat) (a b:Int):cmp g (.int k a) (.int k b) h κ=κ (.bool (g a b)) h:=by
 show bq (Nat.beq k k) _ _=_
 rw [Nat.beq_refl];rfl
theorem kK (g:Int→Int→Int) (k:Nat) (a b:Int):arith g (.int k a) (.int k b) h κ=κ (.int k (aZ k (g a b))) h:=by
 show bq (Nat.beq k k) _ _=_
 rw [Nat.beq_refl];rfl
theorem anJ (k:Nat) (a b:Int):ajJ (.int k a) (.int k b) h κ=bq (decide (b≠0)) (κ (.int k (anq a b)) h) none:=by
 show bq (and (Nat.beq k k) (not (cj b (.ofNat 0)))) _ _=_
 rw [Nat.beq_refl,qA];simp
theorem qf (b:Bool):ot (.bool b) h κ=κ (.bool (not b)) h:=(rfl)
theorem eE (n b o:Nat):ao n (.pto b o) h κ=κ (.pto b (o+n)) h:=(rfl)
theorem aei (n:Nat) (cs:List AV) (o:Nat):ao n (.ptp cs o) h κ=κ (.ptp cs (o+n)) h:=(rfl)
theorem jd (cs:List AV) (y:Nat) (f:List AV→Nat→Option Rs) (g:Nat→List (List AV)→Nat→Option Rs):vJ (.cells cs y) f g=f cs y:=(rfl)
theorem jS (b o:Nat):ar (.pto b o) h κ=au (ae h b) fun B=>vJ B (fun cs _=>au cs[o]? fun v=>κ v h) (fun z ll _=>ahk κ h o z ll):=by
 show dr h b (fun cs _=>sR κ h o cs) _=_
 unfold dr sR qE
 simp only [cX]
theorem yz (cs:List AV) (o:Nat):ar (.ptp cs o) h κ=au cs[o]? fun v=>κ v h:=by
 show au (lT cs o) _=_
 rw [cX]
theorem kT (n b o:Nat):aQ n (.pto b o) h κ=au (ae h b) fun B=>vJ B (fun cs _=>bq (decide (o+n≤cs.length)) (κ (.agg ((cs.drop o).take n)) h) none) (fun z ll _=>afR n κ h o z ll):=by
 show dr h b (fun cs _=>oo n κ h o cs) _=_
 unfold dr oo iG
 simp only [aM,ba,bL,ah,Nat.add_eq]
theorem yZ (n:Nat) (cs:List AV) (o:Nat):aQ n (.ptp cs o) h κ=bq (decide (o+n≤cs.length)) (κ (.agg ((cs.drop o).take n)) h) none:=by
 show oo n κ h o cs=_
 unfold oo iG
 simp only [aM,ba,bL,ah,Nat.add_eq]
theorem uT (b o:Nat) (v:AV):cB (.pto b o) v h κ=bq v.plain (au (ae h b) fun B=>vJ B (fun cs y=>au cs[o]? fun _=>κ (.tup []) (h.set b (some (.cells (cs.set o v) y)))) (st1R v κ h b o)) none:=by
 show bq v.plain (dr h b (anM v κ h b o) _) none=_
 unfold dr
 simp only [show anM v κ h b o=fun cs y=>au (lT cs o) fun _=>κ (.tup []) (bp (some (.cells (bp v cs o) y)) h b) from rfl]
 simp only [cX,cn]
theorem pQ (n b o:Nat) (vs:List AV):aK n (.pto b o) (.agg vs) h κ=bq (and (decide (vs.length=n)) (aR vs)) (au (ae h b) fun B=>vJ B (fun cs y=>bq (decide (o+vs.length≤cs.length)) (κ (.tup []) (h.set b (some (.cells (cs.take o++(vs++cs.drop (o+vs.length))) y)))) none) (stGR n vs κ h b o)) none:=by
 show arf n κ h vs b o=_
 unfold arf dr
 simp only [show arj vs κ h b o=fun cs y=>bq (Nat.ble (Nat.add o (aj vs)) (aj cs)) (κ (.tup []) (bp (some (.cells (aJ (cm o cs) (aJ vs (cJ (Nat.add o (aj vs)) cs))) y)) h b)) none from rfl]
 simp only [ah,jr,bL,cn,aP,aM,ba,Nat.add_eq]
theorem agP:bH .nils h κ=κ (.int 9223372036854775807 0) h:=(rfl)
theorem ai0:bH .sle h κ=κ (.int 9223372036854775807 0) h:=(rfl)
theorem ap3 (cs:List AV) (n:Nat):bH (.slp cs n) h κ=κ (.int 9223372036854775807 n) h:=(rfl)
theorem ap6 (b o l c z:Nat) (e:Bool):bH (.slo b o l c z e) h κ=κ (.int 9223372036854775807 l) h:=(rfl)
theorem ape (l:List Nat):ail (.str l) h κ=κ (.int 9223372036854775807 l.length) h:=by
 show κ (.int _ (.ofNat (aj l))) h=_
 rw [ah];rfl
theorem yW (sz:Nat) (cs:List AV) (len k i:Nat):bT sz (.slp cs len) (.int k (i:Int)) h κ=bq (decide (i<len)) (κ (.ptp cs (i*sz)) h) none:=by
 show bq (Nat.blt i len) _ _=_
 rw [vS];rfl
theorem aoj (k:Nat) (a b:Int):anb (.int k a) (.int k b) h κ=bq (decide (b≠0)) (κ (.int k (aZ k (aqY a b))) h) none:=by
 show bq (and (Nat.beq k k) (not (cj b (.ofNat 0)))) _ _=_
 rw [Nat.beq_refl,qA];simp
theorem apg (k:Nat) (n:Int):aoW (.int k n) h κ=κ (.int k (aZ k (iT (.ofNat 0) n))) h:=(rfl)
theorem ahQ (m k:Nat) (n:Int):cvI m (.int k n) h κ=κ (.int m (aZ m n)) h:=(rfl)
theorem rM (sz b o l c:Nat) (e:Bool) (k i:Nat):bT sz (.slo b o l c sz e) (.int k (i:Int)) h κ=bq (decide (i<l)) (κ (.pto b (o+i*sz)) h) none:=by
 show bq (Nat.blt i l) (bq (Nat.beq sz sz) _ _) _=_
 rw [vS,Nat.beq_refl];rfl
theorem ann (l:List Nat) (k i:Nat):am9 (.str l) (.int k (i:Int)) h κ=au l[i]? fun b=>κ (.int 255 b) h:=by
 show au (dL l i) _=_
 rw [bt];rfl
theorem arG (n sz b o k i:Nat):akE n sz (.pto b o) (.int k (i:Int)) h κ=bq (decide (i<n)) (κ (.pto b (o+i*sz)) h) none:=by
 show bq (Nat.blt i n) _ _=_
 rw [vS];rfl
theorem ajN (n sz:Nat) (cs:List AV) (k i:Nat):aeD n sz (.agg cs) (.int k (i:Int)) h κ=bq (decide (i<n)) (au cs[i*sz]? fun v=>κ v h) none:=by
 show bq (Nat.blt i n) (au (lT cs (i*sz)) _) none=_
 rw [vS,cX]
theorem anl (off:Nat) (cs:List AV):vu off (.agg cs) h κ=au cs[off]? fun v=>κ v h:=by
 show au (lT cs off) _=_
 rw [cX]
theorem apb (off n:Nat) (cs:List AV):uW off n (.agg cs) h κ=bq (decide (off+n≤cs.length)) (κ (.agg ((cs.drop off).take n)) h) none:=by
 show oo n κ h off cs=_
 unfold oo iG
 simp only [aM,ba,bL,ah,Nat.add_eq]
theorem iK (i:Nat) (cs:List AV):eO i (.tup cs) h κ=au cs[i]? fun v=>κ v h:=by
 show au (lT cs i) _=_
 rw [cX]
theorem apn (b o:Nat):aC (.pto b o) h κ=κ (.pto b o) h:=(rfl)
theorem ao1 (cs:List AV) (o:Nat):aC (.ptp cs o) h κ=κ (.ptp cs o) h:=(rfl)
theorem afz (a b:List Nat):yd (.str a) (.str b) h κ=bq (decide (a.length+b.length≤9223372036854775807)) (κ (.str (a++b)) h) none:=by
 show bq (Nat.ble (Nat.add (aj a) (aj b)) _) (κ (.str (aJ a b)) h) none=_
 rw [bL,ah,ah,aP];rfl
theorem afp (g:List Nat→List Nat→Bool) (a b:List Nat):j5 g (.str a) (.str b) h κ=κ (.bool (g a b)) h:=(rfl)
theorem oE (v:AV) (h':AH):aL κ (some (v,h'))=κ v h':=(rfl)
theorem abC:aL κ none=none:=(rfl)
theorem ac7:aR []=true:=(rfl)
theorem aa2 (v:AV) (r:List AV):aR (v::r)=and v.plain (aR r):=(rfl)
theorem af8 (k:Nat) (n:Int):(AV.int k n).plain=true:=(rfl)
theorem aca (b:Bool):(AV.bool b).plain=true:=(rfl)
theorem aga (l:List Nat):(AV.str l).plain=true:=(rfl)
theorem abT:AV.nils.plain=true:=(rfl)
theorem ag3:AV.nil.plain=true:=(rfl)
theorem agw:AV.sle.plain=true:=(rfl)
theorem ag1 (cs:List AV) (n:Nat):(AV.slp cs n).plain=true:=(rfl)
theorem aho (b o l c z:Nat) (e:Bool):(AV.slo b o l c z e).plain=true:=(rfl)
theorem agT (b o:Nat):(AV.pto b o).plain=true:=(rfl)
theorem ahE (cs:List AV) (o:Nat):(AV.ptp cs o).plain=true:=(rfl)
theorem aqx (cs:List AV):(AV.agg cs).nb=true:=(rfl)
theorem aru (k:Nat) (n:Int):(AV.int k n).nb=true:=(rfl)
theorem aoJ (b:Bool):(AV.bool b).nb=true:=(rfl)
theorem aqC (l:List Nat):(AV.str l).nb=true:=(rfl)
theorem arz (cs:List AV) (n:Nat):(AV.slp cs n).nb=true:=(rfl)
theorem anN:AV.nils.nb=true:=(rfl)
theorem ap8:AV.sle.nb=true:=(rfl)
theorem aqn (b o l c z:Nat) (e:Bool):(AV.slo b o l c z e).nb=true:=(rfl)
theorem afw (cs:List AV):(AV.agg cs).cells=cs:=(rfl)
theorem ahp (k:Nat) (n:Int):(AV.int k n).cells=[.int k n]:=(rfl)
theorem abx (b:Bool):(AV.bool b).cells=[.bool b]:=(rfl)
theorem aha (l:List Nat):(AV.str l).cells=[.str l]:=(rfl)
theorem aI (h:AH) (x:Option Blk):ae (h++[x]) h.length=x:=by rw [bm];simp
theorem agC (x:Option Blk) (l:AH):ae (x::l) 0=x:=(rfl)
theorem agI (x:Option Blk) (l:AH) (n:Nat):ae (x::l) (n+1)=ae l n:=(rfl)
theorem aq {h:AH} {n:Nat} (hn:n<h.length) (l:AH):ae (h++l) n=ae h n:=by rw [bm,bm,List.getElem?_append_left hn]
theorem az {h:AH} {n:Nat} (hn:n<h.length) (v:Option Blk):ae (h.set n v) n=v:=by rw [bm];simp [hn]
theorem ai {h:AH} {n m:Nat} (hn:n≠m) (v:Option Blk):ae (h.set n v) m=ae h m:=by rw [bm,bm,List.getElem?_set_ne hn]
theorem adO (h:AH) (x v:Option Blk):(h++[x]).set h.length v=h++[v]:=by
 rw [List.set_append_right _ _ (Nat.le_refl _)];simp
theorem aO {h:AH} {n:Nat} {b:Blk} (e:ae h n=some b):n<h.length:=cD (by rw [e];simp)
theorem ary (k:Nat) (cs:List AV):(AV.agg cs).lt k=ltL k cs:=(rfl)
theorem aqO (k:Nat) (cs:List AV):(AV.tup cs).lt k=ltL k cs:=(rfl)
theorem aqJ (k m:Nat) (n:Int):(AV.int m n).lt k=true:=(rfl)
theorem aoO (k:Nat) (b:Bool):(AV.bool b).lt k=true:=(rfl)
theorem aqK (k:Nat) (l:List Nat):(AV.str l).lt k=true:=(rfl)
theorem aoZ (k:Nat):AV.nils.lt k=true:=(rfl)
theorem aqQ (k:Nat):AV.sle.lt k=true:=(rfl)
theorem arh (k:Nat):AV.nil.lt k=true:=(rfl)
theorem aq8 (k:Nat) (cs:List AV) (n:Nat):(AV.slp cs n).lt k=true:=(rfl)
theorem aq0 (k:Nat) (cs:List AV) (n:Nat):(AV.ptp cs n).lt k=true:=(rfl)
theorem gH (k b o:Nat):(AV.pto b o).lt k=decide (b<k):=vS b k
theorem oG (k b o l c z:Nat) (e:Bool):(AV.slo b o l c z e).lt k=decide (b<k):=vS b k
theorem acf {f:Nat} {args:List AV} {v:AV} (hx:C.ext f=none) (hp:ltL 0 args=true) (hm:C.rn f args=some v) (ho:C.own f=false:=by kernel_rfl):aD C run f args h=some (v,h):=by
 unfold aD
 rw [hx,ho,hp,hm];rfl
theorem acQ {f:Nat} {args:List AV} {r:AV} {h1:AH} (hx:C.ext f=none) (hp:ltL 0 args=true) (hm:C.rn f args=none) (hr:run f args []=some (r,h1)) (hl:r.lt 0=true) (ho:C.own f=false:=by kernel_rfl):aD C run f args h=some (r,h):=by
 unfold aD
 rw [hx,ho,hp,hm,hr]
 show bq true (au (some (r,h1)) (lL C f h)) _=_
 rw [aw,aT]
 unfold lL
 rw [hl];rfl
theorem qQ {f:Nat} {args:List AV} {g:List AV→AH→Option (AV×AH)} (hx:C.ext f=some g):aD C run f args h=g args h:=by
 unfold aD
 rw [hx]
theorem art (n:Nat):(rl C (n+1)).run=cW C (rl C n).run (rl C n).lp:=(rfl)
theorem asV (n:Nat) (b:K) (s:St):(rl C (n+1)).lp b s=au (kx C (rl C n).run (rl C n).lp b s) (uo ((rl C n).lp b)):=(rfl)
end
end Go.Proofs.YteapfopaiocpeaaGreatDoor
namespace Go.Proofs.YteapfopaiocpeaaGreatDoor
set_option linter.unusedSimpArgs false
set_option linter.unusedVariables false
set_option linter.unnecessarySimpa false
open Go.RowKit
section
variable {H:Type} {enc:TypeId×Value→H}
theorem za {a:Assume} {C:Checked} {os:Os} {f:FuncId} {fn:Func} {s:ChangeSpec} {conds:List PathCond} {apart fresh handsOn again:Bool} {X:World→Array Value→Prop}
 (hX: ∀(w w':World) (args:Array Value),w.heap=w'.heap→X w args→X w' args)
 (own:ownKnob C.prog.godebug=none) (started:os.Started) (noInit:C.prog.inits.idxOf? f=none) (hfn:C.prog.funcs[f]? =some fn)
 (witness: ∃(w:World) (tape:Tape) (i:Input),w.os=os∧(w.forCall tape i).Shaped C.prog∧i.vars=[]∧Input.okWide C.prog (w.forCall tape i) .any w.heap.size f i∧
  ((s.pre enc C.prog fn conds apart (w.forCall tape i).memory i.args∧X (w.forCall tape i).memory i.args)∧sizedMet enc C.prog fn (OpenSpec.ofChange s) apart (w.forCall tape i).memory i.args)∧a.holds C.prog (lone (Frame.enter C.prog f i.args .normal) [] (w.forCall tape i)))
 (contract: ∀(W:World) (base:Nat) (args:Array Value) (ds gs:List (DataW H)) (before:List MemPlace),
  (∀(j:Nat) t v,fn.params[j]? =some t→args[j]? =some v→Value.okWide C.prog W .any base t v)→
  DataW.Whole enc C.prog fn.params.toList s.vars apart W args.toList ds gs before→
  X W args→W.ShapedOpen C.prog→
  Calls C.prog f args W fun e W'=>∃v,e= .returned v∧s.post enc C.prog fn apart fresh handsOn again W args v W'):
 ReturnsInHanded a C os f .any (fun w args=>(s.pre enc C.prog fn conds apart w args∧X w args)∧sizedMet enc C.prog fn (OpenSpec.ofChange s) apart w args) (s.post enc C.prog fn apart fresh handsOn again):=by
 refine returnsInHanded_of_calls own started noInit witness ?_
 intro w tape i _ hsh _ hok hpre hholds
 obtain ⟨_,_,_,fn',hfn',_,_,_,_,hval⟩:=hok
 have e:fn'=fn:=Option.some.inj (hfn'.symm.trans hfn)
 subst e
 obtain ⟨⟨⟨ds,gs,before,hw,hc⟩,hx⟩,hz⟩:=hpre
 have hw':=DataW.Whole.of_heap (w':=w.forCall tape i) (by rfl) hw
 refine (contract (w.forCall tape i) w.heap.size i.args ds gs before hval hw' (hX _ _ _ (by rfl) hx) hsh).mono fun e W' ⟨v,he,hp⟩=>?_
 subst he
 exact ChangeSpec.post_blind hp
end
def TyV (P:Program) (n:Nat) (t:TypeId) (a:AV):Prop:=match P.underlying t with
 |some (.struct _)|some (.array _ _)=>∃as,a= .agg as∧TyC P n t as
 |_=>TyC P n t [a]
theorem abR {H:Type} {enc:TypeId×Value→H} {P:Program} (hl:laidOutB P=true) {ts:List TypeId} (hc:tx P ts=true) {W:World} {base:Nat} {spare:Nat→Bool} {b:Nat} {t:TypeId} {v:Value} {d:DataW H} {p:List MemPlace}
 (ht:t∈ts) (hok:Value.okWide P W .any base t v) (h:DataW.Trod enc P W b spare true t v d p) (hp: ∀x∈p,x.block<W.heap.size): ∃n a,V (· <W.heap.size) W a ρ0 v∧TyV P n t a:=by
 obtain ⟨n,hn⟩:=h
 obtain ⟨as,h1,h2⟩:=aoz hl hc n t _ _ ht hn hp
 have hr:=uj hc ht
 unfold qm at hr
 rw [Bool.and_eq_true] at hr
 have scal: ∀v:Value,v.cells= #[v]→VL (· <W.heap.size) W as ρ0 v.cells.toList→ ∃a,as=[a]∧V (· <W.heap.size) W a ρ0 v:=by
  intro v hv h
  rw [hv] at h
  match as,h with
  |[],h=>simp [VL] at h
  |a::r,h=>
   simp only [VL,List.cons.injEq] at h
   obtain ⟨u,r',⟨rfl,rfl⟩,g1,g2⟩:=h
   match r,g2 with
   |[],_=>exact ⟨a,rfl,g1⟩
   |_::_,g=>simp [VL] at g
 unfold TyV
 cases hu:P.underlying t with
 |none=>rw [hu] at hr;cases hr.2
 |some D=>
  rw [hu] at hr
  cases D with
  |bool=>
   obtain ⟨x,rfl⟩:=Go.WideShapes.okWide_bool hu hok
   obtain ⟨a,rfl,g⟩:=scal _ rfl h1
   exact ⟨n,a,g,h2⟩
  |int k=>
   obtain ⟨x,rfl⟩:=Go.WideShapes.okWide_int hu hok
   obtain ⟨a,rfl,g⟩:=scal _ rfl h1
   exact ⟨n,a,g,h2⟩
  |string=>
   obtain ⟨x,rfl⟩:=Go.WideShapes.okWide_string hu hok
   obtain ⟨a,rfl,g⟩:=scal _ rfl h1
   exact ⟨n,a,g,h2⟩
  |slice e=>
   obtain ⟨x,l,c,rfl⟩:=Go.WideShapes.okWide_slice hu hok
   obtain ⟨a,rfl,g⟩:=scal _ rfl h1
   exact ⟨n,a,g,h2⟩
  |struct fs=>
   obtain ⟨cs,rfl,_⟩:=Go.WideShapes.okWide_struct hu hok
   exact ⟨n,.agg as,by simp only [V];exact ⟨cs,rfl,h1⟩,as,rfl,h2⟩
  |array m e=>
   have: ∃cs,v= .agg cs:=by
    unfold Value.okWide at hok
    rw [hu] at hok
    obtain ⟨cs,h,_⟩:=hok
    exact ⟨cs,h⟩
   obtain ⟨cs,rfl⟩:=this
   exact ⟨n,.agg as,by simp only [V];exact ⟨cs,rfl,h1⟩,as,rfl,h2⟩
  |_=>cases hr.2
section
variable {P:Program} {n:Nat} {t:TypeId} {as:List AV}
theorem TyC.aob {k:IntKind} (hu:P.underlying t=some (.int k)) (h:TyC P n t as): ∃x,as=[.int (cO k) x]∧(Lit.int k x).wf=true:=by
 cases n with
 |zero=>exact h.elim
 |succ n=>have:=h.2;rw [hu] at this;exact this
theorem TyC.acL {e:TypeId} (hu:P.underlying t=some (.slice e)) (h:TyC P n t as):as=[.nils]∨as=[.sle]∨ ∃m cs len,as=[.slp cs len]∧0<len∧len≤maxLen∧TyL (TyC P m) (List.replicate len e) cs:=by
 cases n with
 |zero=>exact h.elim
 |succ n=>
  have:=h.2
  rw [hu] at this
  rcases this with h|h|⟨cs,len,h1,h2,h3,h4⟩
  ·exact .inl h
  ·exact .inr (.inl h)
  ·exact .inr (.inr ⟨n,cs,len,h1,h2,h3,h4⟩)
theorem TyC.one (hu:P.cellsOf t=1) (h:TyC P n t as): ∃c,as=[c]:=by
 have:=h.len
 rw [hu] at this
 match as,this with
 |[c],_=>exact ⟨c,rfl⟩
theorem ae5 (k:Nat): ∀(a b:List AV),ltL k (a++b)=and (ltL k a) (ltL k b)
 |[],b=>by simp [x9]
 |x::a,b=>by rw [List.cons_append,j9,j9,ae5 k a b,Bool.and_assoc]
theorem TyL.lt {T:TypeId→List AV→Prop} (hT: ∀t as,T t as→ltL 0 as=true): ∀{ts:List TypeId} {as:List AV},TyL T ts as→ltL 0 as=true
 |[],as,h=>by rw [show as=[] from h];rfl
 |t::ts,as,h=>by
  obtain ⟨a,r,rfl,h1,h2⟩:=h
  rw [ae5,hT t a h1,TyL.lt hT h2];rfl
theorem TyC.lt: ∀{n:Nat} {t:TypeId} {as:List AV},TyC P n t as→ltL 0 as=true
 |0,_,_,h=>h.elim
 |n+1,t,as,h=>by
  have h:=h.2
  split at h
  ·obtain ⟨b,rfl⟩:=h;rfl
  ·obtain ⟨b,rfl,_⟩:=h;rfl
  ·obtain ⟨b,rfl,_⟩:=h;rfl
  ·exact TyL.lt (fun _ _ h=>TyC.lt h) h
  ·exact TyL.lt (fun _ _ h=>TyC.lt h) h
  ·rcases h with rfl|rfl|⟨cs,len,rfl,_⟩<;>rfl
  ·exact h.elim
theorem TyV.agg {fs:Array Field} {a:AV} (hu:P.underlying t=some (.struct fs)) (h:TyV P n t a): ∃as,a= .agg as∧TyC P n t as:=by
 unfold TyV at h;rw [hu] at h;exact h
theorem TyV.aob {k:IntKind} {a:AV} (hu:P.underlying t=some (.int k)) (h:TyV P n t a): ∃x,a= .int (cO k) x∧(Lit.int k x).wf=true:=by
 unfold TyV at h;rw [hu] at h
 obtain ⟨x,h1,h2⟩:=TyC.aob hu h
 cases h1
 exact ⟨x,rfl,h2⟩
theorem TyV.acL {e:TypeId} {a:AV} (hu:P.underlying t=some (.slice e)) (h:TyV P n t a):a= .nils∨a= .sle∨ ∃m cs len,a= .slp cs len∧0<len∧len≤maxLen∧TyL (TyC P m) (List.replicate len e) cs:=by
 unfold TyV at h;rw [hu] at h
 rcases TyC.acL hu h with h|h|⟨m,cs,len,h1,h2⟩
 ·cases h;exact .inl rfl
 ·cases h;exact .inr (.inl rfl)
 ·cases h1;exact .inr (.inr ⟨m,cs,len,rfl,h2⟩)
end
theorem yR {P:Program} {C:Cx} {F:Nat} {as:List AV} {h':AH} (R:iE P C F as [] (.bool true) h') {W:World} {args:Array Value} (I:Inv C (· <W.heap.size) W ρ0 []) (hv:VL (· <W.heap.size) W as ρ0 args.toList):
 Calls P F args W fun e w'=>e= .returned (.bool true)∧Below W.heap.size W w':=by
 have:=R.2 _ W ρ0 args.toList I hv
 rw [Array.toArray_toList] at this
 refine this.mono fun e w' ⟨u,ok',ρ',he,E,_,hV⟩=>?_
 simp only [V] at hV
 subst hV
 exact ⟨he,E.os,E.tape,E.output,E.size,fun k hk=>E.keep k hk fun n hn=>absurd (by simp [bm]) hn⟩
theorem afj {P:Program} {W:World} {g t:Nat} {cs:Array Value} {fuel n e:Nat} {k:IntKind} {zs:List Int} {p:List MemPlace} {nm:String} (hg:P.globalNamed nm=some g) (hv:W.var? P nm=some cs)
 (hu:P.underlying t=some (.array n e)) (he:P.underlying e=some (.int k)) (c1:P.cellsOf e=1) (hz:zs.length=n) {d:DataW Unit} (ed:d= .agg (zs.map fun n=>.lit (.int k n)))
 (hd:DataW.trod (fun _=>()) P W 0 (fun _=>true) false fuel t cs.toList=some (d,p)): ∀r (h:r<zs.length),W.cell? ⟨g,r,none⟩=some (.int k zs[r]):=by
 intro r hr
 subst ed
 obtain ⟨xs,m,_,ex,_,hl,hel⟩:=DataW.trod_array hu hd
 have hE:=hel r (by omega)
 rw [c1,Nat.mul_one,List.getElem?_eq_getElem (by omega)] at hE
 obtain ⟨z,e1,e2,_⟩:=DataW.trod_int he hE
 have e3:(xs.map (·.1))=zs.map fun n=>.lit (.int k n):=(DataW.agg.inj (Prod.mk.inj ex).1).symm
 have e4:(xs.map (·.1))[r]? =(zs.map fun n=>(DataW.lit (.int k n):DataW Unit))[r]? :=by rw [e3]
 rw [List.getElem?_map,List.getElem?_map,List.getElem?_eq_getElem (by omega:r<xs.length),List.getElem?_eq_getElem hr,e2] at e4
 have hz:z=zs[r]:=by simpa using e4
 rw [World.var?_cell hg hv r,←hz]
 have:cs.toList[r]? =some (.int k z):=by
  have h0:((cs.toList.drop r).take 1)[0]? =some (.int k z):=by rw [e1];rfl
  simpa using h0
 simpa using this
theorem ad2 {ok:Nat→Prop} {w:World} {ρ:Rho} {g:Nat} {k:IntKind}: ∀{zs:List Int} {p:Nat},(∀r (h:r<zs.length),w.cell? ⟨g,p+r,none⟩=some (.int k zs[r]))→VAt ok w (zs.map fun n=>.int (cO k) n) ρ g p
 |[],_,_=>by simp only [List.map_nil,VAt]
 |z::zs,p,h=>by
  simp only [List.map_cons,VAt]
  refine ⟨⟨.int k z,h 0 (by simp),by simp only [V];exact ⟨k,rfl,rfl⟩⟩,ad2 fun r hr=>?_⟩
  have:=h (r+1) (by simpa using hr)
  rw [show p+1+r=p+(r+1) by omega]
  simpa using this
end Go.Proofs.YteapfopaiocpeaaGreatDoor
namespace Go.Proofs.YteapfopaiocpeaaGreatDoor
set_option linter.unusedSimpArgs false
set_option linter.unusedVariables false
set_option linter.unnecessarySimpa false
section
variable {C:Cx} {run:Run} {lp:Lp} {s:St} {h:AH} {κ:Ka}
theorem bqT {α:Type} (a b:α):bq true a b=a:=(rfl)
theorem bqF {α:Type} (a b:α):bq false a b=b:=(rfl)
theorem aq1 {α β:Type} (f:α→Option β):au none f=none:=(rfl)
theorem j6 {α β:Type} (a:α) (f:α→Option β):au (some a) f=f a:=(rfl)
theorem ep {m a:Nat} (h:a≤m):aZ m (a:Int)=(a:Int):=by
 show bq (Nat.ble a m) (Int.ofNat a) _=_
 rw [bL,bf h];rfl
theorem jC {t a:Nat} (h:a≤t):toU t (a:Int)=a:=by
 show bq (Nat.ble a t) a (Nat.land a t)=a
 rw [bL,bf h]
theorem aee {t:Nat} {a:Int} (h0:0≤a) (h:a≤t):toU t a=a.toNat:=by
 obtain ⟨n,rfl⟩: ∃n:Nat,a=n:=⟨a.toNat,by omega⟩
 exact jC (by omega)
theorem qD (m t:Nat) (g:Nat→Nat→Nat) (a b:Int):mh m t g (.int m a) (.int m b) h κ=κ (.int m (aZ m ((g (toU t a) (toU t b):Nat):Int))) h:=by
 show bq (Nat.beq m m) (bq (Nat.beq m m) _ none) none=_
 rw [Nat.beq_refl];rfl
theorem adI {m w k:Nat} (a:Nat) {s:Int} (h0:0≤s) (hs:s≤w):pK m w (.int m (a:Int)) (.int k s) h κ=κ (.int m ((a/2^s.toNat:Nat):Int)) h:=by
 obtain ⟨n,rfl⟩: ∃n:Nat,s=n:=⟨s.toNat,by omega⟩
 show bq (Nat.beq m m) (κ (.int m (.ofNat (a/2^(og n w)))) h) none=_
 rw [Nat.beq_refl,aw]
 unfold og
 rw [bL,bf (by omega)];rfl
theorem adY {m w k:Nat} (a:Int) {s:Int} (h0:0≤s) (hs:s≤w):aa0 m w (.int m a) (.int k s) h κ=κ (.int m (aZ m (a*((2^s.toNat:Nat):Int)))) h:=by
 obtain ⟨n,rfl⟩: ∃n:Nat,s=n:=⟨s.toNat,by omega⟩
 show bq (Nat.beq m m) (κ (.int m (aZ m (sO a (.ofNat (2^(og n w)))))) h) none=_
 rw [Nat.beq_refl,aw,apS]
 unfold og
 rw [bL,bf (by omega)];rfl
theorem min_eq (k:Nat) (a b:Int):jk false (.int k a) (.int k b) h κ=κ (.int k (min a b)) h:=by
 show bq (Nat.beq k k) (κ (.int k (bq (tJ b a) b a)) h) none=_
 rw [Nat.beq_refl,aw,xf]
 by_cases e:b<a
 ·rw [bf e];congr 2;omega
 ·rw [gy e];congr 2;omega
theorem max_eq (k:Nat) (a b:Int):jk true (.int k a) (.int k b) h κ=κ (.int k (max a b)) h:=by
 show bq (Nat.beq k k) (κ (.int k (bq (tJ a b) b a)) h) none=_
 rw [Nat.beq_refl,aw,xf]
 by_cases e:a<b
 ·rw [bf e];congr 2;omega
 ·rw [gy e];congr 2;omega
theorem mI (b w:Bool) (f:Ka→Option Rs):av (.bool b) w f h κ=bq (ou b w) (f κ) (κ (.tup []) h):=(rfl)
theorem my (w:Bool) (f:Ka→Option Rs):av (.tup []) w f h κ=κ (.tup []) h:=by cases w<;>rfl
theorem qc:ou true true=true:=(rfl)
theorem qa:ou true false=false:=(rfl)
theorem px:ou false true=false:=(rfl)
theorem pX:ou false false=true:=(rfl)
theorem agW (k:Nat) (a b:Int):fD 1 2 [.int k 0] [(0,.int k a),(1,.int k b)] h κ=κ (.slo h.length 0 2 2 1 true) (h++[some (.cells [.int k a,.int k b] 0)]):=by
 have e:fD 1 2 [.int k 0] [(0,.int k a),(1,.int k b)] h κ=κ (.slo (aj h) 0 2 2 1 true) (aJ h [some (.cells [.int k a,.int k b] 0)]):=by kernel_rfl
 rw [e,ah,aP]
theorem uS: ∀l:List Nat,eqS l l=true
 |[]=>rfl
 |a::r=>by show bq (Nat.beq a a) (eqS r r) false=true;rw [Nat.beq_refl,aw,uS r]
theorem gA (v:AV):AV.same v v=true:=by
 refine AV.rec (motive_1:=fun v=>AV.same v v=true) (motive_2:=fun l=>AV.same (.agg l) (.agg l)=true) ?_ ?_ ?_ ?_ ?_ ?_ ?_ ?_ ?_ ?_ ?_ ?_ ?_ ?_ ?_ ?_ ?_ ?_ ?_ ?_ ?_ v
 ·rfl
 ·intro b;cases b<;>rfl
 ·intro k n;show and (Nat.beq k k) (cj n n)=true;rw [Nat.beq_refl,qA];simp
 ·intro l;exact uS l
 ·rfl
 ·intro b o;show and (Nat.beq b b) (Nat.beq o o)=true;rw [Nat.beq_refl,Nat.beq_refl];rfl
 ·intro c o ih;show and (Nat.beq o o) (AV.same (.agg c) (.agg c))=true;rw [Nat.beq_refl,ih];rfl
 ·rfl
 ·intro b o l c z e;show and (and (and (Nat.beq b b) (Nat.beq o o)) (and (Nat.beq l l) (Nat.beq c c))) (and (Nat.beq z z) (ou e e))=true;simp only [Nat.beq_refl];cases e<;>rfl
 ·intro c n ih;show and (Nat.beq n n) (AV.same (.agg c) (.agg c))=true;rw [Nat.beq_refl,ih];rfl
 ·rfl
 ·rfl
 ·intro b;exact Nat.beq_refl b
 ·intro a c ia ic;show and (AV.same (.agg a) (.agg a)) (AV.same (.agg c) (.agg c))=true;rw [ia,ic];rfl
 ·rfl
 ·intro f a c ia ic;show and (Nat.beq f f) (and (AV.same (.agg a) (.agg a)) (AV.same (.agg c) (.agg c)))=true;rw [Nat.beq_refl,ia,ic];rfl
 ·rfl
 ·intro c ih;exact ih
 ·intro c ih;exact ih
 ·rfl
 ·intro a r ia ir;show and (AV.same a a) (AV.same (.agg r) (.agg r))=true;rw [ia,ir];rfl
theorem sJ: ∀l:List (List AV),mJ l l=true
 |[]=>rfl
 |x::a=>by show and (AV.same (.agg x) (.agg x)) (mJ a a)=true;rw [gA,sJ a];rfl
theorem yh (b:Blk):qo b b=true:=by
 cases b with
 |cells x y=>show and (Nat.beq y y) (AV.same (.agg x) (.agg x))=true;rw [Nat.beq_refl,gA];rfl
 |map x y=>show and (AV.same (.agg x) (.agg x)) (AV.same (.agg y) (.agg y))=true;rw [gA,gA];rfl
 |rows z x y=>show and (and (Nat.beq z z) (Nat.beq y y)) (mJ x x)=true;rw [Nat.beq_refl,Nat.beq_refl,sJ];rfl
theorem kS: ∀h:AH,gm h h=true
 |[]=>rfl
 |none::a=>kS a
 |some x::a=>by show and (qo x x) (gm a a)=true;rw [yh,kS a];rfl
theorem cT (h:AH):cF (aj h) h=h:=by
 unfold cF
 rw [ah,aM,List.take_length,aP,iJ]
 simp
end
noncomputable section
def ckX (h:AH) (k:AV→Option Rs) (x:AV×AH):Option Rs:=bq (and (gm x.2 h) (AV.lt (aj h) x.1)) (k x.1) none
end
section
variable {C:Cx} {run:Run} {lp:Lp} {s:St} {h:AH} {κ:Ka}
theorem ue {α:Type} {f:α→Bool}: ∀{l:List α},fY f l=true↔ ∀a∈l,f a=true
 |[]=>by simp [fY]
 |a::r=>by
  show and (f a) (fY f r)=true↔_
  rw [Bool.and_eq_true,ue];simp
theorem anY (v:AV) (h:AH):vhO (kVH v h)=some (v,h):=(rfl)
theorem alJ (k:AV→Option Rs) (v:AV):ckX h k (v,h)=bq (AV.lt (aj h) v) (k v) none:=by
 unfold ckX
 rw [kS,Bool.true_and]
theorem aj8 {f:Nat} {args:List AV} {r:AV} {h1:AH} (hx:C.ext f=none) (ho:C.own f=true) (ht:C.tr f=false) (hr:run f args h=some (r,h1)):aD C run f args h=some (r,h1):=by
 unfold aD
 rw [hx,ho,hr]
 show abl C f (aj h) (r,h1)=_
 unfold abl
 rw [ht];rfl
end
noncomputable section
end
section
variable {C:Cx} {run:Run} {kr:Kr} {q c id it:Nat} {ent:List OK} {fl1:List (Nat×Nat)} {t:Tms} {h:AH}
theorem oF: ∀t:Tm,jo t t=true
 | .nl=>rfl
 | .lf k v=>by show and (Nat.beq k k) (AV.same v v)=true;rw [Nat.beq_refl,gA];rfl
 | .nd m a b=>by show and (Nat.beq m m) (and (jo a a) (jo b b))=true;rw [Nat.beq_refl,oF a,oF b];rfl
end
theorem eB {place:Nat→Option (Nat×Nat)} {z cs:List AV} {ps:List (Nat×AV)} {h:AH} {κ:Ka} (e:aab place z ps=some cs):gU place z ps h κ=κ (.agg cs) h:=by
 unfold gU
 rw [e];rfl
theorem cY {n y:Nat} {Z E:List AV} {h:AH} {κ:Ka} (hZ:Z.length=n) (hE:E.length=n) (hp:aR E=true):aK n (.pto h.length 0) (.agg E) (h++[some (.cells Z y)]) κ=κ (.tup []) (h++[some (.cells E y)]):=by
 rw [pQ,hE,hp,decide_eq_true rfl]
 show bq true _ none=_
 rw [aw,aI,aT,jd,Nat.zero_add,decide_eq_true (Nat.le_of_eq hZ.symm),aw,adO,List.drop_eq_nil_of_le (by omega)]
 simp
theorem ux: ∀(a b:List AV),aR (a++b)=and (aR a) (aR b)
 |[],b=>rfl
 |x::a,b=>by
  show and x.plain (aR (a++b))=and (and x.plain (aR a)) (aR b)
  rw [ux a b,Bool.and_assoc]
theorem TyL.aR {T:TypeId→List AV→Prop} (hT: ∀t as,T t as→aR as=true): ∀{ts:List TypeId} {as:List AV},TyL T ts as→Go.Proofs.YteapfopaiocpeaaGreatDoor.aR as=true
 |[],as,h=>by rw [show as=[] from h];rfl
 |t::ts,as,h=>by
  obtain ⟨a,r,rfl,h1,h2⟩:=h
  rw [ux,hT t a h1,TyL.aR hT h2];rfl
theorem TyC.aR {P:Program}: ∀{n:Nat} {t:TypeId} {as:List AV},TyC P n t as→Go.Proofs.YteapfopaiocpeaaGreatDoor.aR as=true
 |0,_,_,h=>h.elim
 |n+1,t,as,h=>by
  have h2:=h.2
  split at h2
  ·obtain ⟨b,rfl⟩:=h2;rfl
  ·obtain ⟨x,rfl,_⟩:=h2;rfl
  ·obtain ⟨l,rfl,_⟩:=h2;rfl
  ·exact TyL.aR (fun t as h=>TyC.aR h) h2
  ·exact TyL.aR (fun t as h=>TyC.aR h) h2
  ·rcases h2 with rfl|rfl|⟨cs,len,rfl,_⟩<;>rfl
  ·exact h2.elim
noncomputable section
def ckN (k:AV→Option Rs) (x:AV×AH):Option Rs:=k x.1
def ckE (h:AH) (k:AV→AH→Option Rs) (x:AV×AH):Option Rs:=bq (Nat.ble (aj h) (aj x.2)) (k x.1 x.2) none
end
section
variable {C:Cx} {run:Run} {lp:Lp} {s:St} {h:AH} {κ:Ka}
theorem aq7 (k:AV→Option Rs) (v:AV) (h':AH):ckN k (v,h')=k v:=(rfl)
theorem aqE (k:AV→AH→Option Rs) (v:AV) (h':AH):ckE h k (v,h')=bq (decide (h.length≤h'.length)) (k v h') none:=by
 unfold ckE
 rw [bL,ah,ah]
end
end Go.Proofs.YteapfopaiocpeaaGreatDoor
namespace Go.Proofs.YteapfopaiocpeaaGreatDoor
set_option linter.unusedSimpArgs false
set_option linter.unusedVariables false
set_option linter.unnecessarySimpa false
section
variable {C:Cx} {run:Run} {lp:Lp} {s:St} {h:AH} {κ:Ka}
def Fr (m:Nat) (h h':AH):Prop:=h.length≤h'.length∧ ∀i,i<m→ae h' i=ae h i
theorem Fr.refl (m:Nat) (h:AH):Fr m h h:=⟨Nat.le_refl _,fun _ _=>rfl⟩
theorem Fr.trans {m:Nat} {a b c:AH} (x:Fr m a b) (y:Fr m b c):Fr m a c:=⟨Nat.le_trans x.1 y.1,fun i hi=>(y.2 i hi).trans (x.2 i hi)⟩
theorem Fr.mono {m n:Nat} {a b:AH} (x:Fr m a b) (h:n≤m):Fr n a b:=⟨x.1,fun i hi=>x.2 i (by omega)⟩
theorem Fr.push {m:Nat} {h:AH} (hm:m≤h.length) (x:AH):Fr m h (h++x):=⟨by simp,fun i hi=>aq (by omega) x⟩
theorem Fr.set {m n:Nat} {h:AH} (hm:m≤n) (x:Option Blk):Fr m h (h.set n x):=⟨by simp,fun i hi=>by rw [bm,bm,List.getElem?_set_ne (by omega)]⟩
def dq (h:AH) (v:AV) (cs:List AV):Prop:=
 (cs=[]∧(v= .nils∨v= .sle))∨(∃row,v= .slp row cs.length∧row.take cs.length=cs)∨ ∃b o n row y e,v= .slo b o cs.length n 1 e∧ae h b=some (.cells row y)∧(row.drop o).take cs.length=cs∧o+cs.length≤row.length
theorem aky {α:Type} {row cs:List α} (h:row.take cs.length=cs):cs.length≤row.length:=by
 have:=congrArg List.length h
 rw [List.length_take] at this
 omega
theorem dq.lO {v:AV} {cs:List AV} (r:dq h v cs):lO v=some cs.length:=by
 rcases r with ⟨rfl,rfl|rfl⟩|⟨row,rfl,_⟩|⟨b,o,n,row,y,e,rfl,_⟩<;>rfl
theorem dq.bH {v:AV} {cs:List AV} (r:dq h v cs) (h':AH) (κ:Ka):bH v h' κ=κ (.int 9223372036854775807 (cs.length:Int)) h':=by
 rcases r with ⟨rfl,rfl|rfl⟩|⟨row,rfl,_⟩|⟨b,o,n,row,y,e,rfl,_⟩<;>rfl
theorem dq.plain {v:AV} {cs:List AV} (r:dq h v cs):v.plain=true:=by
 rcases r with ⟨rfl,rfl|rfl⟩|⟨row,rfl,_⟩|⟨b,o,n,row,y,e,rfl,_⟩<;>rfl
theorem dq.nb {v:AV} {cs:List AV} (r:dq h v cs):v.nb=true:=by
 rcases r with ⟨rfl,rfl|rfl⟩|⟨row,rfl,_⟩|⟨b,o,n,row,y,e,rfl,_⟩<;>rfl
theorem dq.cells {v:AV} {cs:List AV} (r:dq h v cs):v.cells=[v]:=by
 rcases r with ⟨rfl,rfl|rfl⟩|⟨row,rfl,_⟩|⟨b,o,n,row,y,e,rfl,_⟩<;>rfl
theorem dq.lt {v:AV} {cs:List AV} (r:dq h v cs):v.lt (aj h)=true:=by
 rcases r with ⟨rfl,rfl|rfl⟩|⟨row,rfl,_⟩|⟨b,o,n,row,y,e,rfl,hb,_⟩
 ·rfl
 ·rfl
 ·rfl
 ·rw [oG,ah];exact decide_eq_true (cD (by rw [hb];simp))
theorem dq.up {v:AV} {cs:List AV} {h':AH} (r:dq h v cs) (f:Fr h.length h h'):dq h' v cs:=by
 rcases r with r|r|⟨b,o,n,row,y,e,rfl,hb,hc,hd⟩
 ·exact .inl r
 ·exact .inr (.inl r)
 ·exact .inr (.inr ⟨b,o,n,row,y,e,rfl,by rw [f.2 b (cD (by rw [hb];simp))];exact hb,hc,hd⟩)
theorem dq.elems {v:AV} {cs:List AV} (r:dq h v cs):cQ h 1 cs.length v=some cs:=by
 rcases r with ⟨rfl,rfl|rfl⟩|⟨row,rfl,hr⟩|⟨b,o,n,row,y,e,rfl,hb,hr,hd⟩
 ·rfl
 ·rfl
 ·show bq (Nat.ble (Nat.mul cs.length 1) (aj row)) (some (cm (Nat.mul cs.length 1) row)) none=_
  have:=aky hr
  rw [bL,ah,aM,show Nat.mul cs.length 1=cs.length from Nat.mul_one _,bf this,hr]
 ·unfold cQ
  simp only [hb]
  show bq (Nat.ble (Nat.add o (Nat.mul cs.length 1)) (aj row)) (some (cm (Nat.mul cs.length 1) (cJ o row))) none=_
  rw [bL,ah,aM,ba,show Nat.mul cs.length 1=cs.length from Nat.mul_one _,hr]
  exact bf hd _ _
theorem dq.idx {v:AV} {cs:List AV} (r:dq h v cs) {i:Nat} {c:AV} (hc:cs[i]? =some c):
 ∃p,AV.lt (aj h) p=true∧(∀(k:Nat) (κ:Ka),bT 1 v (.int k (i:Int)) h κ=κ p h)∧ ∀(κ:Ka),ar p h κ=κ c h:=by
 have hi:i<cs.length:=(List.getElem?_eq_some_iff.1 hc).1
 rcases r with ⟨rfl,_⟩|⟨row,rfl,hr⟩|⟨b,o,n,row,y,e,rfl,hb,hr,hd⟩
 ·simp at hi
 ·refine ⟨.ptp row i,rfl,fun k κ=>?_,fun κ=>?_⟩
  ·rw [yW,bf hi,Nat.mul_one]
  ·have:row[i]? =some c:=by
    rw [←hr,List.getElem?_take_of_lt (by omega)] at hc;exact hc
   rw [yz,this];rfl
 ·refine ⟨.pto b (o+i),?_,fun k κ=>?_,fun κ=>?_⟩
  ·rw [gH,ah];exact decide_eq_true (cD (by rw [hb];simp))
  ·rw [rM,bf hi,Nat.mul_one]
  ·have:row[o+i]? =some c:=by
    rw [←hr,List.getElem?_take_of_lt (by omega),List.getElem?_drop] at hc;exact hc
   rw [jS,hb]
   show au row[o+i]? _=_
   rw [this];rfl
theorem alc (z:AV) (k:Nat) (a:Int) (h:AH) (κ:Ka):fD 1 1 [z] [(0,.int k a)] h κ=κ (.slo h.length 0 1 1 1 true) (h++[some (.cells [.int k a] 0)]):=by
 have e:fD 1 1 [z] [(0,.int k a)] h κ=κ (.slo (aj h) 0 1 1 1 true) (aJ h [some (.cells [.int k a] 0)]):=by kernel_rfl
 rw [e,ah,aP]
theorem aeX (k:Nat): ∀l:List AV,(upL k l).length=l.length
 |[]=>rfl
 |a::r=>by rw [hC,List.length_cons,aeX k r,List.length_cons]
theorem aah (k:Nat): ∀(n:Nat) (l:List AV),upL k (l.drop n)=(upL k l).drop n
 |0,_=>rfl
 |n+1,[]=>rfl
 |n+1,a::r=>by rw [hC,List.drop_succ_cons,List.drop_succ_cons,aah k n r]
theorem zJ (k:Nat): ∀(n:Nat) (l:List AV),upL k (l.take n)=(upL k l).take n
 |0,_=>rfl
 |n+1,[]=>rfl
 |n+1,a::r=>by rw [List.take_succ_cons,hC,hC,List.take_succ_cons,zJ k n r]
theorem dq.shift {h1:AH} {v:AV} {cs:List AV} (r:dq h1 v cs) (hu: ∀k,upL k cs=cs) (h:AH):dq (h++h1.map (vN h.length)) (v.up h.length) cs:=by
 rcases r with ⟨rfl,rfl|rfl⟩|⟨row,rfl,hr⟩|⟨b,o,n,row,y,e,rfl,hb,hr,hl⟩
 ·exact .inl ⟨rfl,.inl rfl⟩
 ·exact .inl ⟨rfl,.inr rfl⟩
 ·exact .inr (.inl ⟨row,rfl,hr⟩)
 ·refine .inr (.inr ⟨b+h.length,o,n,upL h.length row,y,e,rfl,?_,?_,?_⟩)
  ·rw [←aP,cH,if_neg (by omega),Nat.add_sub_cancel,←dh,aa7,hb];rfl
  ·rw [←aah,←zJ,hr,hu]
  ·rw [aeX];exact hl
theorem dq.pure {h1:AH} {v:AV} {cs:List AV} (r:dq h1 v cs) (hl:v.lt 0=true) (h:AH):dq h v cs:=by
 rcases r with r|r|⟨b,o,n,row,y,e,rfl,_⟩
 ·exact .inl r
 ·exact .inr (.inl r)
 ·rw [oG] at hl;simp at hl
theorem Fr.shift (h h1:AH):Fr h.length h (h++h1.map (vN h.length)):=Fr.push (Nat.le_refl _) _
def hU (m:Nat) (h:AH) (v:AV) (cs:List AV):Prop:=(cs=[]∧v= .nils)∨ ∃b y e,m≤b∧v= .slo b 0 cs.length cs.length 1 e∧ae h b=some (.cells cs y)
theorem hU.at {m:Nat} {v:AV} {cs:List AV} (r:hU m h v cs):dq h v cs:=by
 rcases r with ⟨rfl,rfl⟩|⟨b,y,e,_,rfl,hb⟩
 ·exact .inl ⟨rfl,.inl rfl⟩
 ·exact .inr (.inr ⟨b,0,_,cs,y,e,rfl,hb,by simp,by simp⟩)
theorem hU.up {m:Nat} {h':AH} {v:AV} {cs:List AV} (r:hU m h v cs) (f: ∀i,m≤i→i<h.length→ae h' i=ae h i):hU m h' v cs:=by
 rcases r with r|⟨b,y,e,hm,rfl,hb⟩
 ·exact .inl r
 ·exact .inr ⟨b,y,e,hm,rfl,by rw [f b hm (aO hb)];exact hb⟩
end
end Go.Proofs.YteapfopaiocpeaaGreatDoor
namespace Go.Proofs.YteapfopaiocpeaaGreatDoor
set_option linter.unusedSimpArgs false
set_option linter.unusedVariables false
set_option linter.unnecessarySimpa false
noncomputable section
abbrev Kt:=St→Option Rs
def kcN (κn:Kt) (κx:Ex→Kt) (s:St) (e:Ex):Option Rs:=Ex.rec (motive:=fun _=>Option Rs) (κn s) (fun i=>κx (.exit i) s) (κx .ret s) e
def kcR (κn:Kt) (κx:Ex→Kt) (x:Option (Ex×St)):Option Rs:=au x fun r=>kcN κn κx r.2 r.1
def bG (v:AV) (a b:Option Rs):Option Rs:=mR v fun c=>bq c a b
def kcO (id:Nat) (κn:Kt) (κx:Ex→Kt) (e:Ex) (s:St):Option Rs:=Ex.rec (motive:=fun _=>Option Rs) (κn s) (fun i=>bq (Nat.beq i id) (κn s) (κx (.exit i) s)) (κx .ret s) e
def kc (C:Cx) (run:Run) (lp:Lp) (k:K):St→Kt→(Ex→Kt)→Option Rs:=
 K.rec (motive:=fun _=>St→Kt→(Ex→Kt)→Option Rs)
  (fun s κn _=>κn s)
  (fun l fl s κn _=>vH C run s.t l (fun σ h=>κn ⟨bZ σ s.t fl,h⟩) [] s.h)
  (fun l pl fl s κn κx=>kcR κn κx (apr C run l pl fl s))
  (fun l1 p1 f1 l2 p2 f2 s κn κx=>kcR κn κx (ajX C run l1 p1 f1 l2 p2 f2 s))
  (fun _ _ a b s κn κx=>a s (fun s=>b s κn κx) κx)
  (fun c _ _ a b s κn κx=>bG (ev C [] s.t c) (a s κn κx) (b s κn κx))
  (fun id _ b s κn κx=>b s κn (kcO id κn κx))
  (fun b _ s κn κx=>kcR κn κx (lp b s))
  (fun f p a b _ _ s κn κx=>kcR κn κx (kx C run lp (.rf f p a b) s))
  (fun pre x fl q c ent fl1 id it r _ s κn κx=>kcR κn κx (kx C run lp (.rm pre x fl q c ent fl1 id it r) s))
  (fun e s κn κx=>kcN κn κx s e)
  (fun _ _ _=>none) k
def kSub (k:K) (i:Nat):K:=
 match k with
 | .seq a b=>bq (Nat.beq i 0) a b
 | .cond _ a b=>bq (Nat.beq i 0) a b
 | .block _ b=>b
 | .loop b=>b
 | .rm _ _ _ _ _ _ _ _ _ r=>r
 |_=>.no
def kAt (p:List Nat):K→K:=List.rec (motive:=fun _=>K→K) (fun k=>k) (fun i _ ih k=>ih (kSub k i)) p
def kOf (C:Cx) (f:Nat):K:=Option.rec (motive:=fun _=>K) .no (fun F=>F.k) (dp C f)
end
def aU (F:Ka→Option Rs):Prop:=(∀κ,F κ=none)∨ ∃v h,∀κ,F κ=κ v h
section
variable {α:Type} {C:Cx} {run:Run} {lp:Lp} {σ:List AV} {T:Tms} {h:AH} {x y z:AV} {ds:List (Option Nat)}
theorem N0:aU fun _=>none:=.inl fun _=>rfl
theorem N1 (v:AV) (h:AH):aU fun κ=>κ v h:=.inr ⟨v,h,fun _=>rfl⟩
theorem Nb (c:Bool) {F G:Ka→Option Rs} (hF:aU F) (hG:aU G):aU fun κ=>bq c (F κ) (G κ):=by cases c<;>assumption
theorem No (o:Option α) {F:α→Ka→Option Rs} (H: ∀a,aU (F a)):aU fun κ=>au o fun a=>F a κ:=by
 cases o with
 |none=>exact N0
 |some a=>exact H a
theorem gS (x:AV) {F:Nat→Int→Ka→Option Rs} (H: ∀k n,aU (F k n)):aU fun κ=>cS x fun k n=>F k n κ:=by cases x<;>first|exact H _ _|exact N0
theorem apw (x:AV) {F:Bool→Ka→Option Rs} (H: ∀b,aU (F b)):aU fun κ=>mR x fun b=>F b κ:=by cases x<;>first|exact H _|exact N0
theorem zd (x:AV) {F:List Nat→Ka→Option Rs} (H: ∀b,aU (F b)):aU fun κ=>gO x fun b=>F b κ:=by cases x<;>first|exact H _|exact N0
theorem af4 (x:AV) {F:Nat→Nat→Ka→Option Rs} {G:List AV→Nat→Ka→Option Rs} (H: ∀b o,aU (F b o)) (H': ∀b o,aU (G b o)):aU fun κ=>lW x (fun b o=>F b o κ) (fun c o=>G c o κ):=by
 cases x<;>first|exact H _ _|exact H' _ _|exact N0
theorem arp (x:AV) {F:List AV→Ka→Option Rs} (H: ∀b,aU (F b)):aU fun κ=>sC x fun b=>F b κ:=by cases x<;>first|exact H _|exact N0
theorem NTup (x:AV) {F:List AV→Ka→Option Rs} (H: ∀b,aU (F b)):aU fun κ=>adD x fun b=>F b κ:=by cases x<;>first|exact H _|exact N0
theorem aag (x:AV) {A:Ka→Option Rs} {F:Nat→Nat→Nat→Nat→Nat→Bool→Ka→Option Rs} {G:List AV→Nat→Ka→Option Rs} (HA:aU A) (H: ∀b o l c z e,aU (F b o l c z e)) (H': ∀b o,aU (G b o)):
 aU fun κ=>lR x (A κ) (fun b o l c z e=>F b o l c z e κ) (fun c o=>G c o κ):=by
 cases x<;>first|exact H _ _ _ _ _ _|exact H' _ _|exact HA|exact N0
theorem NFn (x:AV) {F:Nat→List AV→List AV→Ka→Option Rs} (H: ∀b c d,aU (F b c d)):aU fun κ=>ais x fun b c d=>F b c d κ:=by cases x<;>first|exact H _ _ _|exact N0
theorem asy (x:AV) {A:Ka→Option Rs} (HA:aU A):aU fun κ=>acD x (A κ):=by cases x<;>first|exact HA|exact N0
theorem xU (h:AH) (b:Nat) {F:List AV→Nat→Ka→Option Rs} (H: ∀cs y,aU (F cs y)):aU fun κ=>oO h b fun cs y=>F cs y κ:=
 No (ae h b) fun B=>by cases B<;>first|exact H _ _|exact N0
theorem abi (h:AH) (b:Nat) {F:List AV→Nat→Ka→Option Rs} {G:Nat→List (List AV)→Nat→Ka→Option Rs} (H: ∀cs y,aU (F cs y)) (H': ∀z ll y,aU (G z ll y)):aU fun κ=>dr h b (fun cs y=>F cs y κ) (fun z ll y=>G z ll y κ):=
 No (ae h b) fun B=>by cases B<;>first|exact H _ _|exact H' _ _ _|exact N0
theorem NMap (b:Blk) {F:List AV→List AV→Ka→Option Rs} (H: ∀cs y,aU (F cs y)):aU fun κ=>aod b fun cs y=>F cs y κ:=by cases b<;>first|exact H _ _|exact N0
theorem NX (x:Option (AV×AH)):aU fun κ=>aL κ x:=by
 rcases x with _|⟨v,h⟩
 ·exact N0
 ·exact N1 v h
theorem NV (h:AH) (v:Option AV):aU fun κ=>qE κ h v:=No v fun v=>N1 v h
theorem agS (i:Int) {F:Nat→Ka→Option Rs} (H: ∀b,aU (F b)):aU fun κ=>vL i fun b=>F b κ:=by cases i<;>first|exact H _|exact N0
theorem akt (i:Int) (n:Nat) {F:Nat→Ka→Option Rs} (H: ∀b,aU (F b)):aU fun κ=>inB i n fun b=>F b κ:=agS i fun m=>Nb _ (H m) N0
theorem aoH (len cap:Nat) (lo hi mx:Option AV) {F:Nat→Nat→Nat→Ka→Option Rs} (H: ∀l u m,aU (F l u m)):aU fun κ=>mO len cap lo hi mx fun l u m=>F l u m κ:=
 No _ fun l=>No _ fun u=>No _ fun m=>Nb _ (H l u m) N0
theorem aj3 (b:Blk):aU fun κ=>dY h b κ:=N1 _ _
theorem afb:aU fun κ=>ar x h κ:=af4 x (fun b o=>abi h b (fun cs _=>NV h _) fun z ll _=>No _ fun l=>NV h _) fun c o=>NV h _
theorem ae0 (n:Nat):aU fun κ=>aQ n x h κ:=af4 x (fun b o=>abi h b (fun cs _=>Nb _ (N1 _ _) N0) fun z ll _=>No _ fun l=>Nb _ (N1 _ _) (Nb _ (N1 _ _) N0)) fun c o=>Nb _ (N1 _ _) N0
theorem ajR:aU fun κ=>cB x y h κ:=af4 x (fun b o=>Nb _ (abi h b (fun cs y=>No _ fun _=>N1 _ _) fun z ll y=>No _ fun l=>No _ fun _=>N1 _ _) N0) fun c o=>N0
theorem ahR (n:Nat):aU fun κ=>aK n x y h κ:=arp y fun vs=>af4 x (fun b o=>Nb _ (abi h b (fun cs y=>Nb _ (N1 _ _) N0) fun z ll y=>No _ fun l=>Nb _ (N1 _ _) N0) N0) fun c o=>N0
theorem anE (g:Int→Int→Int):aU fun κ=>arith g x y h κ:=gS x fun k a=>gS y fun k' b=>Nb _ (N1 _ _) N0
theorem ase (g:Int→Int→Bool):aU fun κ=>cmp g x y h κ:=gS x fun k a=>gS y fun k' b=>Nb _ (N1 _ _) N0
theorem asN:aU fun κ=>anb x y h κ:=gS x fun k a=>gS y fun k' b=>Nb _ (N1 _ _) N0
theorem asZ:aU fun κ=>ajJ x y h κ:=gS x fun k a=>gS y fun k' b=>Nb _ (N1 _ _) N0
theorem asC (m t:Nat) (g:Nat→Nat→Nat):aU fun κ=>mh m t g x y h κ:=gS x fun k a=>Nb _ (gS y fun k' b=>Nb _ (N1 _ _) N0) N0
theorem asA (m w:Nat):aU fun κ=>aa0 m w x y h κ:=gS x fun k a=>gS y fun k' b=>agS b fun s=>Nb _ (N1 _ _) N0
theorem as6 (m w:Nat):aU fun κ=>pK m w x y h κ:=gS x fun k a=>gS y fun k' b=>agS b fun s=>Nb _ (N1 _ _) N0
theorem as1 (m:Nat):aU fun κ=>cvI m x h κ:=gS x fun _ n=>N1 _ _
theorem asP:aU fun κ=>aoW x h κ:=gS x fun _ n=>N1 _ _
theorem asF:aU fun κ=>ot x h κ:=apw x fun _=>N1 _ _
theorem asL (m t:Nat):aU fun κ=>arE m t x h κ:=gS x fun _ n=>Nb _ (N1 _ _) N0
theorem aad (m:Bool):aU fun κ=>jk m x y h κ:=gS x fun k a=>gS y fun k' b=>Nb _ (N1 _ _) N0
theorem alj (g:List Nat→List Nat→Bool):aU fun κ=>j5 g x y h κ:=zd x fun _=>zd y fun _=>N1 _ _
theorem alL:aU fun κ=>yd x y h κ:=zd x fun _=>zd y fun _=>Nb _ (N1 _ _) N0
theorem ao8:aU fun κ=>adK x h κ:=zd x fun _=>N1 _ _
theorem as2 (ti:TI):aU fun κ=>eqlA ti x y h κ:=No _ fun _=>N1 _ _
theorem as3 (ti:TI):aU fun κ=>aop ti x y h κ:=No _ fun _=>N1 _ _
theorem ari:aU fun κ=>bH x h κ:=aag x (N1 _ _) (fun _ _ _ _ _ _=>N1 _ _) fun _ _=>N1 _ _
theorem arI:aU fun κ=>ail x h κ:=zd x fun _=>N1 _ _
theorem aqt:aU fun κ=>aoI x h κ:=No _ fun _=>N1 _ _
theorem ab1:aU fun κ=>uY x h κ:=zd x fun _=>N1 _ _
theorem arM:aU fun κ=>aq3 x h κ:=aag x N0 (fun b _ _ _ _ _=>xU h b fun _ _=>N1 _ _) fun _ _=>N0
theorem abB:aU fun κ=>fj x h κ:=No _ fun _=>No _ fun _=>No _ fun _=>aag x (N1 _ _) (fun _ _ _ _ _ _=>N1 _ _) fun _ _=>N1 _ _
theorem aeS (n:Nat):aU fun κ=>ao n x h κ:=af4 x (fun _ _=>N1 _ _) fun _ _=>N1 _ _
theorem aqk (n sz:Nat):aU fun κ=>akE n sz x y h κ:=gS y fun _ i=>akt i n fun m=>aeS _
theorem arC (sz:Nat):aU fun κ=>bT sz x y h κ:=gS y fun _ i=>aag x N0 (fun b o l c z e=>akt i l fun m=>Nb _ (N1 _ _) N0) fun cs l=>akt i l fun m=>N1 _ _
theorem aqM:aU fun κ=>am9 x y h κ:=zd x fun l=>gS y fun _ i=>agS i fun m=>No _ fun _=>N1 _ _
theorem akA (o:Nat):aU fun κ=>vu o x h κ:=arp x fun cs=>NV h _
theorem alr (o n:Nat):aU fun κ=>uW o n x h κ:=arp x fun cs=>Nb _ (N1 _ _) N0
theorem aoS (n sz:Nat):aU fun κ=>aeD n sz x y h κ:=gS y fun _ i=>akt i n fun m=>akA _
theorem ang (n sz:Nat):aU fun κ=>ajs n sz x y h κ:=gS y fun _ i=>akt i n fun m=>alr _ _
theorem asJ (i:Nat):aU fun κ=>eO i x h κ:=NTup x fun cs=>NV h _
theorem aoh:aU fun κ=>aC x h κ:=asy x (N1 _ _)
theorem ass (lo hi:Option AV):aU fun κ=>slT x lo hi h κ:=zd x fun s=>No _ fun l=>No _ fun u=>Nb _ (N1 _ _) N0
theorem ast (sz:Nat) (lo hi mx:Option AV):aU fun κ=>slS sz x lo hi mx h κ:=
 aag x (aoH _ _ _ _ _ fun _ _ _=>N1 _ _) (fun b o l c z e=>aoH _ _ _ _ _ fun _ _ _=>Nb _ (Nb _ (N1 _ _) (N1 _ _)) N0) fun cs l=>aoH _ _ _ _ _ fun _ _ _=>Nb _ (Nb _ (N1 _ _) (N1 _ _)) N0
theorem arN (n sz:Nat) (lo hi:Option AV):aU fun κ=>slA n sz x lo hi h κ:=
 af4 x (fun b o=>xU h b fun cs _=>Nb _ (aoH _ _ _ _ _ fun _ _ _=>Nb _ (N1 _ _) (N1 _ _)) N0) fun _ _=>N0
theorem aqB (sz by_:Nat) (ze:List AV):aU fun κ=>abZ sz by_ ze x y h κ:=gS x fun k l=>gS y fun k' c=>agS l fun l=>agS c fun c=>Nb _ (N1 _ _) N0
theorem apX (p:Nat→Option (Nat×Nat)) (ze:List AV) (ps:List (Nat×AV)):aU fun κ=>gU p ze ps h κ:=No _ fun _=>N1 _ _
theorem aqs (sz len:Nat) (ze:List AV) (ps:List (Nat×AV)):aU fun κ=>fD sz len ze ps h κ:=Nb _ (No _ fun _=>N1 _ _) N0
theorem aqN (ki ei:TI) (ok:Bool):aU fun κ=>ni ki ei ok x y h κ:=No _ fun _=>Nb _ (No _ fun _=>NV h _) N0
theorem abf (ki:TI):aU fun κ=>yg ki x y z h κ:=by
 cases x<;>first|exact N0|exact No _ fun b=>NMap b fun _ _=>Nb _ (No _ fun _=>N1 _ _) N0
theorem asY (ki:TI):aU fun κ=>aqv ki x y h κ:=by
 cases x<;>first|exact N0|exact Nb _ (N1 _ _) N0|exact No _ fun b=>NMap b fun _ _=>Nb _ (No _ fun _=>N1 _ _) N0
theorem asm (sz:Nat) (ze:List AV):aU fun κ=>aqj sz ze x h κ:=
 aag x (N1 _ _) (fun b o l c z e=>Nb _ (N1 _ _) (Nb _ (xU h b fun cs yy=>Nb _ (N1 _ _) N0) N0)) fun _ _=>Nb _ (N1 _ _) N0
theorem apF (ty sz by_:Nat):aU fun κ=>eH ty sz by_ x y h κ:=
 No _ fun n=>No _ fun new=>Nb _ (aag x (Nb _ (N1 _ _) (Nb _ (N1 _ _) N0)) (fun b o l c z e=>Nb _ (abi h b (fun cs yy=>Nb _ (Nb _ (N1 _ _) N0) (Nb _ (N1 _ _) N0)) fun z ll yy=>Nb _ (Nb _ (Nb _ (N1 _ _) N0) (Nb _ (N1 _ _) N0)) N0) N0) fun _ _=>Nb _ (N1 _ _) N0) N0
theorem aqd (sz:Nat):aU fun κ=>aln sz x y h κ:=
 No _ fun n=>No _ fun m=>No _ fun new=>Nb _ (aag x (N1 _ _) (fun b o l c z e=>Nb _ (xU h b fun cs yy=>Nb _ (N1 _ _) N0) N0) fun _ _=>Nb _ (N1 _ _) N0) N0
theorem as8 (ty:Nat):aU fun κ=>gZ ty x h κ:=Nb _ (aj3 _) N0
theorem aqV:aU fun κ=>fm x y z h κ:=apw x fun _=>N1 _ _
theorem ao7 (args:List AV):aU fun κ=>ais x (aps C run args h κ):=NFn x fun f a c=>NX _
theorem dM:aU (no.f C run σ T h):=N0
theorem dT (t:Nat) {f:TI→OK} (H: ∀ti,aU ((f ti).f C run σ T h)):aU ((tyK C t f).f C run σ T h):=by
 unfold tyK
 split
 ·exact H _
 ·exact dM
theorem yE (c:Bool) {k l:OK} (hk:aU (k.f C run σ T h)) (hl:aU (l.f C run σ T h)):aU ((bq c k l).f C run σ T h):=by cases c<;>assumption
theorem vP (n:Nat) {k:OK} (hk:aU (k.f C run σ T h)):aU ((nz n k).f C run σ T h):=yE _ dM hk
theorem ar0 (op:BinOp) (k:IntKind) (a b:Od):aU ((wL op k a b).f C run σ T h):=by
 cases op<;>first|exact anE _|exact ase _|exact asN|exact asZ|exact asC _ _ _|exact asA _ _|exact as6 _ _
theorem asx (op:BinOp) (a b:Od):aU ((vU op a b).f C run σ T h):=by
 cases op<;>first|exact alL|exact alj _|exact dM
theorem ar3 (op:BinOp) (ti:TI) (a b:Od):aU ((acm op ti a b).f C run σ T h):=by
 unfold acm
 split
 ·exact ar0 _ _ _ _
 ·exact asx _ _ _
 ·split
  ·exact as2 _
  ·exact as3 _
  ·exact dM
theorem N_un (op:UnOp) (ti:TI) (a:Od):aU ((unK op ti a).f C run σ T h):=by
 unfold unK
 split
 ·exact asP
 ·exact asF
 ·exact asL _ _
 ·exact dM
theorem aqu (sd:Bool) (si di:TI) (a:Od):aU ((iH C sd si di a).f C run σ T h):=by
 unfold iH
 split
 ·exact as1 _
 ·exact ao8
 ·exact yE _ ab1 dM
 ·exact yE _ abB dM
 ·exact yE _ arM dM
 ·exact dM
theorem arH (c:Call):aU ((qI C c ds).f C run σ T h):=by
 unfold qI
 split
 ·exact NX _
 ·exact ao7 _
 ·split
  ·refine dT _ fun ti=>?_
   split
   ·exact arI
   ·exact ari
   ·exact aqt
   ·exact N1 _ _
   ·exact dM
  ·exact dM
 ·split
  ·refine dT _ fun ti=>dT _ fun ui=>?_
   split
   ·exact dT _ fun ei=>vP _ (vP _ (apF _ _ _))
   ·exact dT _ fun ei=>vP _ (vP _ (apF _ _ _))
   ·exact dM
  ·exact dM
 ·split
  ·refine dT _ fun ti=>?_
   split
   ·exact dT _ fun ei=>vP _ (aqd _)
   ·exact dM
  ·exact dM
 ·split
  ·exact aad _
  ·exact dM
 ·split
  ·exact aad _
  ·exact dM
 ·split
  ·refine dT _ fun ti=>?_
   split
   ·exact dT _ fun ki=>asY _
   ·exact dM
  ·exact dM
 ·split
  ·refine dT _ fun ti=>?_
   split
   ·exact dT _ fun ei=>vP _ (asm _ _)
   ·exact dM
  ·exact dM
 ·exact dM
theorem N_op (o:Op):aU ((opK C ds o).f C run σ T h):=by
 cases o
 case move x=>exact N1 _ _
 case assign x=>exact N1 _ _
 case pick c x y=>exact aqV
 case alloc el=>exact dT _ fun ti=>aj3 _
 case box el x=>exact as8 _
 case build t ps=>
  refine dT _ fun ti=>?_
  split
  ·exact yE _ (apX _ _ _) dM
  ·exact dT _ fun ei=>apX _ _ _
  ·exact dM
 case buildSlice t n ps=>
  refine dT _ fun ti=>?_
  split
  ·exact dT _ fun ei=>vP _ (aqs _ _ _ _)
  ·exact dM
 case insert t m k x=>
  refine dT _ fun ti=>?_
  split
  ·exact dT _ fun ei=>abf _
  ·exact dM
 case mapUpdate t m k x=>
  refine dT _ fun ti=>?_
  split
  ·exact dT _ fun ei=>abf _
  ·exact dM
 case load t p=>exact dT _ fun ti=>yE _ (ae0 _) afb
 case store t p x=>exact dT _ fun ti=>yE _ (ahR _) ajR
 case nilCheck x=>exact aoh
 case binOp op t x y ty=>exact dT _ fun ti=>ar3 _ _ _ _
 case unOp op t x=>exact dT _ fun ti=>N_un _ _ _
 case convert s d x=>exact dT _ fun si=>dT _ fun di=>aqu _ _ _ _
 case makeFunc fn fi ca=>cases fn<;>first|exact N1 _ _|exact dM
 case makeMap t r=>cases r<;>first|exact N1 _ _|exact dM
 case makeSlice t l c=>
  refine dT _ fun ti=>?_
  split
  ·exact dT _ fun ei=>vP _ (aqB _ _ _)
  ·exact dM
 case slice t x lo hi mx=>
  refine dT _ fun ti=>?_
  split
  ·split
   ·exact ass _ _
   ·exact dM
  ·exact dT _ fun ei=>ast _ _ _ _
  ·split
   ·exact dT _ fun ei=>vP _ (arN _ _ _ _)
   ·exact dM
  ·exact dM
 case fieldAddr t x f=>
  show aU ((match eD C t f with|some (off,ui)=>nz ui.size (OK.mk (o1 (ao off) (od ds x)))|none=>no).f C run σ T h)
  split
  ·exact vP _ (aeS _)
  ·exact dM
 case field t x f=>
  show aU ((match eD C t f with|some (off,ui)=>bq ui.agg (OK.mk (o1 (uW off ui.size) (od ds x))) (OK.mk (o1 (vu off) (od ds x)))|none=>no).f C run σ T h)
  split
  ·exact yE _ (alr _ _) (akA _)
  ·exact dM
 case indexAddr t x i=>
  refine dT _ fun ti=>?_
  split
  ·exact dT _ fun ei=>aqk _ _
  ·exact dT _ fun ei=>arC _
  ·exact dM
 case index t x i=>
  refine dT _ fun ti=>?_
  split
  ·exact dT _ fun ei=>yE _ (ang _ _) (aoS _ _)
  ·exact aqM
  ·exact dM
 case lookup t x i cok=>
  refine dT _ fun ti=>?_
  split
  ·exact dT _ fun ki=>dT _ fun ei=>aqN _ _ _
  ·exact dM
 case extract x i=>exact asJ _
 case call c=>exact arH c
 all_goals exact dM
theorem ao6 (x:Od) (w:Bool) {k:OK} (hk:aU (k.f C run σ T h)):aU ((OK.mk (ya x w k.f)).f C run σ T h):=No _ fun b=>Nb b hk (N1 _ _)
theorem N_gd (ops:List Oper) (g:Option (Nat×Bool)) {k:OK} (hk:aU (k.f C run σ T h)):aU ((gdK ops ds g k).f C run σ T h):=by
 unfold gdK
 split
 ·exact hk
 ·split
  ·split
   ·exact ao6 _ _ hk
   ·exact dM
  ·exact dM
end
def ss (C:Cx) (o:OK):Prop:=∀run σ T h,aU (o.f C run σ T h)
def eF (C:Cx) (k:K):Prop:=
 K.rec (motive:=fun _=>Prop) True (fun l _=>∀o∈l,ss C o) (fun _ _ _=>True) (fun _ _ _ _ _ _=>True) (fun _ _ a b=>a∧b) (fun _ _ _ a b=>a∧b) (fun _ _ b=>b) (fun _ b=>b) (fun _ _ _ _ _ _=>True)
  (fun _ _ _ _ _ _ _ _ _ _ r=>r) (fun _=>True) True k
theorem wP (C:Cx) (ops:List Oper): ∀(l:List Oper) (ds:List (Option Nat)),∀o∈aV C ops ds l,ss C o
 |[],_,o,ho=>by cases ho
 |a::r,ds,o,ho=>by
  rcases List.mem_cons.1 ho with rfl|ho
  ·exact fun run σ T h=>N_gd ops a.guard (N_op a.op)
  ·exact wP C ops r (a.dst::ds) o ho
theorem gQ (C:Cx) (ps:List Nat): ∀c:Code,eF C (comp C ps c)
 | .skip=>trivial
 | .region _ ops d=>by
   show eF C (bq d (bq (fh C ops) (.draw _ _ _) (aaL C ps ops)) (.reg (aV C ops.toList [] ops.toList) _))
   cases d with
   |false=>exact wP C _ _ _
   |true=>
    show eF C (bq (fh C ops) (.draw _ _ _) (aaL C ps ops))
    cases fh C ops with
    |true=>exact trivial
    |false=>
     show eF C (aaL C ps ops)
     unfold aaL
     split
     ·rename_i i j _
      cases zt C ops i j<;>exact trivial
     ·exact trivial
 | .seq a b=>by
   have ha:=gQ C ps a
   have hb:=gQ C ps b
   show eF C (tU C ps a b (comp C ps a) (comp C ps b))
   revert ha hb
   generalize comp C ps a=ka
   generalize comp C ps b=kb
   intro ha hb
   unfold tU
   split
   ·split
    ·exact hb.2.2.2
    ·exact ⟨ha,hb⟩
   ·exact ⟨ha,hb⟩
 | .cond c a b=>⟨gQ C ps a,gQ C ps b⟩
 | .block _ b=>gQ C ps b
 | .loop b=>gQ C ps b
 | .rangeFunc _ pa a b=>by
   unfold comp
   split
   ·cases and (rW C a) (rW C b)<;>trivial
   ·trivial
 | .exit _=>trivial
 | .scope b=>gQ C ps b
 | .label _=>trivial
 | .goto _=>trivial
 | .ret=>trivial
 | .refuse _=>trivial
theorem aiL {C:Cx} {k:K} (i:Nat) (hk:eF C k):eF C (kSub k i):=by
 cases k with
 |seq a b=>show eF C (bq _ a b);cases Nat.beq i 0<;>first|exact hk.1|exact hk.2
 |cond c a b=>show eF C (bq _ a b);cases Nat.beq i 0<;>first|exact hk.1|exact hk.2
 |block _ b=>exact hk
 |loop b=>exact hk
 |rm _ _ _ _ _ _ _ _ _ r=>exact hk
 |_=>exact trivial
theorem jF {C:Cx}: ∀(p:List Nat) {k:K},eF C k→eF C (kAt p k)
 |[],_,hk=>hk
 |i::p,_,hk=>jF p (aiL i hk)
theorem ahW {C:Cx} {fn:Func} {F:FK} (e:acF C fn=some F):eF C F.k:=by
 unfold acF at e
 split at e
 ·rename_i c _
  obtain ⟨_,e2⟩:=ax e
  cases e2
  exact gQ C _ c
 ·cases e
theorem jT (C:Cx) (f:Nat):eF C (kOf C f):=by
 unfold kOf dp
 cases hf:C.fn f with
 |none=>exact trivial
 |some fn=>
  show eF C (Option.rec (motive:=fun _=>K) .no (fun F=>F.k) (acF C fn))
  cases hk:acF C fn with
  |none=>exact trivial
  |some F=>exact ahW hk
section
variable {C:Cx} {run:Run} {lp:Lp}
theorem alu (κn:Kt) (κx:Ex→Kt):kcR κn κx none=none:=(rfl)
theorem yU (κn:Kt) (κx:Ex→Kt) (s:St):kcR κn κx (some (.nrm,s))=κn s:=(rfl)
theorem alb (κn:Kt) (κx:Ex→Kt) (i:Nat) (s:St):kcR κn κx (some (.exit i,s))=κx (.exit i) s:=(rfl)
theorem ao0 (κn:Kt) (κx:Ex→Kt) (s:St):kcR κn κx (some (.ret,s))=κx .ret s:=(rfl)
theorem al2 (κn:Kt) (κx:Ex→Kt) (T:Tms) (fl:List (Nat×Nat)): ∀(l:List OK),(∀o∈l,ss C o)→ ∀(σ:List AV) (h:AH),
 vH C run T l (fun σ h=>κn ⟨bZ σ T fl,h⟩) σ h=kcR κn κx (fC (gR C run fl T l σ h))
 |[],_,σ,h=>rfl
 |⟨f⟩::r,hl,σ,h=>by
  have hr:=fun v h'=>al2 κn κx T fl r (fun o ho=>hl o (List.mem_cons_of_mem _ ho)) (v::σ) h'
  show f C run σ T h (fun v=>vH C run T r (fun σ h=>κn ⟨bZ σ T fl,h⟩) (v::σ))=kcR κn κx (fC (f C run σ T h fun v=>gR C run fl T r (v::σ)))
  rcases hl _ (List.mem_cons_self ..) run σ T h with hn|⟨v,h',hn⟩
  ·rw [show f C run σ T h (fun v=>vH C run T r (fun σ h=>κn ⟨bZ σ T fl,h⟩) (v::σ))=none from hn _,show f C run σ T h (fun v=>gR C run fl T r (v::σ))=none from hn _];rfl
  ·rw [show f C run σ T h (fun v=>vH C run T r (fun σ h=>κn ⟨bZ σ T fl,h⟩) (v::σ))=vH C run T r (fun σ h=>κn ⟨bZ σ T fl,h⟩) (v::σ) h' from hn _,show f C run σ T h (fun v=>gR C run fl T r (v::σ))=gR C run fl T r (v::σ) h' from hn _]
   exact hr v h'
theorem lS: ∀(k:K),eF C k→ ∀(s:St) (κn:Kt) (κx:Ex→Kt),kc C run lp k s κn κx=kcR κn κx (kx C run lp k s)
 | .skip,_,s,κn,κx=>rfl
 | .reg l fl,hk,s,κn,κx=>al2 κn κx s.t fl l hk [] s.h
 | .draw _ _ _,_,s,κn,κx=>rfl
 | .draw2 _ _ _ _ _ _,_,s,κn,κx=>rfl
 | .seq a b,hk,s,κn,κx=>by
   show kc C run lp a s (fun s=>kc C run lp b s κn κx) κx=kcR κn κx (au (kx C run lp a s) (uo (kx C run lp b)))
   rw [lS a hk.1]
   rcases kx C run lp a s with _|⟨e,s'⟩
   ·rfl
   ·cases e with
    |nrm=>exact lS b hk.2 s' κn κx
    |exit i=>rfl
    |ret=>rfl
 | .cond c a b,hk,s,κn,κx=>by
   show bG (ev C [] s.t c) (kc C run lp a s κn κx) (kc C run lp b s κn κx)=kcR κn κx (kIf (ev C [] s.t c) (kx C run lp a) (kx C run lp b) s)
   rw [lS a hk.1,lS b hk.2]
   cases ev C [] s.t c<;>try rfl
   rename_i q
   cases q<;>rfl
 | .block id b,hk,s,κn,κx=>by
   show kc C run lp b s κn (kcO id κn κx)=kcR κn κx (au (kx C run lp b s) (apf id))
   rw [lS b hk]
   rcases kx C run lp b s with _|⟨e,s'⟩
   ·rfl
   ·cases e with
    |nrm=>rfl
    |exit i=>
     show bq (Nat.beq i id) (κn s') (κx (.exit i) s')=kcR κn κx (bq (Nat.beq i id) (some (.nrm,s')) (some (.exit i,s')))
     cases Nat.beq i id<;>rfl
    |ret=>rfl
 | .loop b,_,s,κn,κx=>rfl
 | .rf _ _ _ _,_,s,κn,κx=>rfl
 | .rm _ _ _ _ _ _ _ _ _ _,_,s,κn,κx=>rfl
 | .ex e,_,s,κn,κx=>by cases e<;>rfl
 | .no,_,s,κn,κx=>rfl
theorem aoU (n:Nat) {b:K} (hb:eF C b) (s:St) (κn:Kt) (κx:Ex→Kt):
 kcR κn κx ((rl C (n+1)).lp b s)=kc C (rl C n).run (rl C n).lp b s (fun s=>kcR κn κx ((rl C n).lp b s)) κx:=by
 rw [asV,lS b hb]
 rcases kx C (rl C n).run (rl C n).lp b s with _|⟨e,s'⟩
 ·rfl
 ·cases e<;>rfl
end
noncomputable section
def kcE (C:Cx) (rs:List ResultVar):Kt:=fun s=>au (nD C s.h s.t rs) fun l=>some (.vh (abM l) s.h)
def kcQ (C:Cx) (rs:List ResultVar) (e:Ex):Kt:=fun s=>Ex.rec (motive:=fun _=>Option Rs) (kcE C rs s) (fun _=>none) (kcE C rs s) e
def abc (C:Cx) (s:St) (rs:List ResultVar):(List AV→Option Rs)→Option Rs:=
 List.rec (motive:=fun _=>(List AV→Option Rs)→Option Rs) (fun κ=>κ []) (fun r _ ih κ=>ResultVar.rec (motive:=fun _=>Option Rs) (fun i=>ih fun l=>κ (aW s.t i::l))
  (fun a ty=>au (C.ty ty) fun ti=>bq ti.agg (aQ ti.size (aW s.t a) s.h fun v _=>ih fun l=>κ (v::l)) (ar (aW s.t a) s.h fun v _=>ih fun l=>κ (v::l))) r) rs
end
section
variable {C:Cx} {run:Run} {lp:Lp}
theorem ac2 (s:St): ∀(rs:List ResultVar) (κ:List AV→Option Rs),au (nD C s.h s.t rs) κ=abc C s rs κ
 |[],κ=>rfl
 | .tmp i::r,κ=>by
   show au (match nD C s.h s.t r with|some l=>some (aW s.t i::l)|none=>none) κ=abc C s r fun l=>κ (aW s.t i::l)
   rw [←ac2 s r]
   cases nD C s.h s.t r<;>rfl
 | .cell a ty::r,κ=>by
   show au (match vhO (ad3 C ty (aW s.t a) s.h),nD C s.h s.t r with|some x,some l=>some (x.1::l)|_,_=>none) κ=au (C.ty ty) fun ti=>bq ti.agg (aQ ti.size (aW s.t a) s.h fun v _=>abc C s r fun l=>κ (v::l)) (ar (aW s.t a) s.h fun v _=>abc C s r fun l=>κ (v::l))
   have ih:=fun v=>ac2 s r fun l=>κ (v::l)
   unfold ad3
   cases C.ty ty with
   |none=>rfl
   |some ti=>
    show au (match vhO (bq ti.agg (aQ ti.size (aW s.t a) s.h kVH) (ar (aW s.t a) s.h kVH)),nD C s.h s.t r with|some x,some l=>some (x.1::l)|_,_=>none) κ=bq ti.agg (aQ ti.size (aW s.t a) s.h fun v _=>abc C s r fun l=>κ (v::l)) (ar (aW s.t a) s.h fun v _=>abc C s r fun l=>κ (v::l))
    have fin: ∀F:Ka→Option Rs,aU F→au (match vhO (F kVH),nD C s.h s.t r with|some x,some l=>some (x.1::l)|_,_=>none) κ=F fun v _=>abc C s r fun l=>κ (v::l):=by
     intro F hF
     rcases hF with hF|⟨v,h',hF⟩
     ·rw [hF,hF];rfl
     ·rw [hF,hF,←ih v]
      cases nD C s.h s.t r<;>rfl
    cases ti.agg with
    |true=>exact fin _ (ae0 _)
    |false=>exact fin _ afb
theorem bJ (C:Cx) (rs:List ResultVar) (s:St):kcE C rs s=abc C s rs fun l=>some (.vh (abM l) s.h):=ac2 s rs _
theorem aqy (rs:List ResultVar) (x:Option (Ex×St)):au x (aqh C rs)=vhO (kcR (kcE C rs) (kcQ C rs) x):=by
 have he: ∀s:St,(match nD C s.h s.t rs with|some l=>some (abM l,s.h)|none=>none)=vhO (kcE C rs s):=by
  intro s
  unfold kcE
  cases nD C s.h s.t rs<;>rfl
 rcases x with _|⟨e,s⟩
 ·rfl
 ·cases e with
  |nrm=>exact he s
  |exit i=>rfl
  |ret=>exact he s
theorem bK {f:Nat} {F:FK} {args:List AV} {h:AH} (ho:C.orc f=none) (hf:dp C f=some F) (hl:Nat.ble (aj args) F.n=true):
 cW C run lp f args h=vhO (kc C run lp F.k ⟨aea args F.ps,h⟩ (kcE C F.rs) (kcQ C F.rs)):=by
 have hn:eF C F.k:=by
  have:=jT C f
  unfold kOf at this
  rw [hf] at this
  exact this
 unfold cW
 rw [ho]
 unfold runB
 rw [hf]
 show akT C run lp args h F.k F.ps F.n F.rs=_
 unfold akT
 rw [hl,aw,aqy,lS _ hn]
end
attribute [irreducible] eF kOf kAt kc
end Go.Proofs.YteapfopaiocpeaaGreatDoor
namespace Go.Proofs.YteapfopaiocpeaaGreatDoor
set_option linter.unusedSimpArgs false
set_option linter.unusedVariables false
set_option linter.unnecessarySimpa false
set_option linter.defProp false
def Ends (P:AV→AH→Prop) (x:Option Rs):Prop:=∃r h,x=some (.vh r h)∧P r h
def aG (P:AV→AH→Prop) (x:Option (AV×AH)):Prop:=∃r h,x=some (r,h)∧P r h
section
variable {C:Cx} {run:Run} {lp:Lp} {Q:Option Rs→Prop} {A B:Option Rs} {κ:Ka} {h:AH} {P R:AV→AH→Prop}
theorem Ends.mk {r:AV} {h:AH} (p:P r h):Ends P (some (.vh r h)):=⟨r,h,rfl,p⟩
theorem aG.mono {x:Option (AV×AH)} (g:aG P x) (i: ∀r h,P r h→R r h):aG R x:=by
 obtain ⟨r,h,e,p⟩:=g
 exact ⟨r,h,e,i r h p⟩
theorem aG.of {x y:Option (AV×AH)} (e:x=y) (g:aG P y):aG P x:=by rw [e];exact g
theorem Ends.gives {x:Option Rs} (e:Ends P x):aG P (vhO x):=by
 obtain ⟨r,h,rfl,p⟩:=e
 exact ⟨r,h,rfl,p⟩
theorem yO:bG (.bool true) A B=A:=(rfl)
theorem uO:bG (.bool false) A B=B:=(rfl)
theorem asU (id:Nat) (κn:Kt) (κx:Ex→Kt) (s:St):kcO id κn κx .nrm s=κn s:=(rfl)
theorem apy (id:Nat) (κn:Kt) (κx:Ex→Kt) (s:St):kcO id κn κx .ret s=κx .ret s:=(rfl)
theorem adR (id i:Nat) (κn:Kt) (κx:Ex→Kt) (s:St):kcO id κn κx (.exit i) s=bq (decide (i=id)) (κn s) (κx (.exit i) s):=by rw [←jr];rfl
theorem lV (rs:List ResultVar) (s:St):kcQ C rs .ret s=kcE C rs s:=(rfl)
theorem bE {x:Option (AV×AH)} (g:aG P x) (k: ∀r h',P r h'→Q (κ r h')):Q (aL κ x):=by
 obtain ⟨r,h',rfl,p⟩:=g
 exact k r h' p
theorem wEq (e:A=B) (q:Q B):Q A:=by rw [e];exact q
theorem aG.call {f:Nat} {args:List AV} (g:aG P (run f args h)) (hx:C.ext f=none:=by kernel_rfl) (ho:C.own f=true:=by kernel_rfl) (ht:C.tr f=false:=by kernel_rfl):aG P (aD C run f args h):=by
 obtain ⟨r,h',e,p⟩:=g
 exact ⟨r,h',aj8 hx ho ht e,p⟩
theorem aG.runs {n f:Nat} {args:List AV} {x:Option Rs} (e:cW C (rl C n).run (rl C n).lp f args h=vhO x) (p:Ends P x):aG P ((rl C (n+1)).run f args h):=by
 rw [art,e];exact p.gives
theorem iX {n:Nat} {b:K} {s:St} {κn:Kt} {κx:Ex→Kt} (hb:eF C b) (q:Q (kc C (rl C n).run (rl C n).lp b s (fun s=>kcR κn κx ((rl C n).lp b s)) κx)):Q (kcR κn κx ((rl C (n+1)).lp b s)):=by
 rw [aoU n hb];exact q
theorem fuel {n k:Nat} (h:k≤n): ∃m,n=m+k:=⟨n-k,by omega⟩
end
section
variable {h:AH} {κ:Ka}
def hI (v:AV) (cs:List AV):Prop:=(cs=[]∧(v= .nils∨v= .sle))∨v= .slp cs cs.length
theorem hI.at {v:AV} {cs:List AV} (p:hI v cs) (h:AH):dq h v cs:=by
 rcases p with ⟨rfl,p⟩|rfl
 ·exact .inl ⟨rfl,p⟩
 ·exact .inr (.inl ⟨cs,rfl,by simp⟩)
theorem hI.lt {v:AV} {cs:List AV} (p:hI v cs) (k:Nat):v.lt k=true:=by
 rcases p with ⟨_,rfl|rfl⟩|rfl<;>rfl
theorem hI.len {v:AV} {cs:List AV} (p:hI v cs) (h:AH) (κ:Ka):bH v h κ=κ (.int 9223372036854775807 (cs.length:Int)) h:=(p.at h).bH h κ
theorem hI.cut {v:AV} {cs:List AV} (p:hI v cs) (hne:cs≠[]) {l u:Nat} (h1:l≤u) (h2:u≤cs.length) (k k':Nat) (h:AH) (κ:Ka):
 slS 1 v (some (.int k (l:Int))) (some (.int k' (u:Int))) none h κ=κ (.slp ((cs.drop l).take (u-l)) (u-l)) h:=by
 rcases p with ⟨rfl,_⟩|rfl
 ·exact absurd rfl hne
 ·show bq (and (and (Nat.ble l u) (Nat.ble u cs.length)) (and (Nat.ble cs.length cs.length) (or (not false) true))) (bq (Nat.beq (aj cs) (Nat.mul cs.length 1)) (bq (and false (Nat.beq l cs.length)) (κ .sle h) (κ (.slp (cm (Nat.mul (Nat.sub u l) 1) (cJ (Nat.mul l 1) cs)) (Nat.sub u l)) h)) none) none=_
  rw [bL,bL,bL,ah,decide_eq_true h1,decide_eq_true h2,decide_eq_true (Nat.le_refl _),jr,decide_eq_true (show cs.length=Nat.mul cs.length 1 from (Nat.mul_one _).symm),aM,ba,show Nat.mul l 1=l from Nat.mul_one _,show Nat.mul (Nat.sub u l) 1=u-l from Nat.mul_one _]
  rfl
theorem hI.tail {v:AV} {cs:List AV} (p:hI v cs) (hne:cs≠[]) {l:Nat} (h2:l≤cs.length) (k:Nat) (h:AH) (κ:Ka):
 slS 1 v (some (.int k (l:Int))) none none h κ=κ (.slp (cs.drop l) (cs.length-l)) h:=by
 rcases p with ⟨rfl,_⟩|rfl
 ·exact absurd rfl hne
 ·show bq (and (and (Nat.ble l cs.length) (Nat.ble cs.length cs.length)) (and (Nat.ble cs.length cs.length) (or (not false) false))) (bq (Nat.beq (aj cs) (Nat.mul cs.length 1)) (bq (and false (Nat.beq l cs.length)) (κ .sle h) (κ (.slp (cm (Nat.mul (Nat.sub cs.length l) 1) (cJ (Nat.mul l 1) cs)) (Nat.sub cs.length l)) h)) none) none=_
  rw [bL,bL,ah,decide_eq_true h2,decide_eq_true (Nat.le_refl _),jr,decide_eq_true (show cs.length=Nat.mul cs.length 1 from (Nat.mul_one _).symm),aM,ba,show Nat.mul l 1=l from Nat.mul_one _,show Nat.mul (Nat.sub cs.length l) 1=cs.length-l from Nat.mul_one _,List.take_of_length_le (by simp)]
  rfl
theorem hI.mk (cs:List AV) {n:Nat} (h:n=cs.length):hI (.slp cs n) cs:=.inr (by rw [h])
end
section
variable {h:AH} {κ:Ka} {Q:Option Rs→Prop}
theorem hU.new {m:Nat} (hm:m≤h.length) (c:AV) (y:Nat) (e:Bool):hU m (h++[some (.cells [c] y)]) (.slo h.length 0 1 1 1 e) [c]:=.inr ⟨h.length,y,e,hm,rfl,aI _ _⟩
theorem hU.nil {m:Nat}:hU m h .nils []:=.inl ⟨rfl,rfl⟩
theorem hU.push {m:Nat} {v:AV} {cs:List AV} (r:hU m h v cs) (x:AH):hU m (h++x) v cs:=r.up fun i _ hi=>aq hi x
end
def aS (l:List Nat):List AV:=l.map fun b:Nat=>AV.int 255 (b:Int)
theorem bW (l:List Nat):(aS l).length=l.length:=by simp [aS]
theorem abz (a b:List Nat):aS (a++b)=aS a++aS b:=by simp [aS]
theorem jY: ∀l:List Nat,aR (aS l)=true
 |[]=>rfl
 |a::r=>by show and true (aR (aS r))=true;rw [jY r];rfl
theorem oV {l:List Nat} {i b:Nat} (h:l[i]? =some b):(aS l)[i]? =some (.int 255 (b:Int)):=by unfold aS;rw [List.getElem?_map,h];rfl
theorem aaS (n:Nat) (l:List Nat):(aS l).drop n=aS (l.drop n):=by unfold aS;rw [List.map_drop]
theorem aau (n:Nat) (l:List Nat):(aS l).take n=aS (l.take n):=by unfold aS;rw [List.map_take]
theorem wh: ∀{l:List Nat},(∀b∈l,b<256)→bytesOf (aS l)=some l
 |[],_=>rfl
 |a::r,h=>by
  have ih:=wh (l:=r) fun b hb=>h b (List.mem_cons_of_mem _ hb)
  have ha:a<256:=h a (List.mem_cons_self ..)
  unfold bytesOf at*
  rw [dh] at*
  show jx (kU (.int 255 (Int.ofNat a))::(aS r).map kU)=_
  have:kU (.int 255 (Int.ofNat a))=some a:=by
   show bq (and (Nat.beq 255 255) (Nat.blt a 256)) (some a) none=_
   rw [vS,decide_eq_true ha];rfl
  rw [this]
  unfold jx
  rw [ih]
theorem al0 {h:AH} {v:AV} {l:List Nat} (s:dq h v (aS l)) (hl: ∀b∈l,b<256) (κ:Ka):fj v h κ=κ (.str l) h:=by
 have e:=s.elems
 unfold fj
 rw [s.lO,aT,e,aT,wh hl,aT]
 rcases s with ⟨_,rfl|rfl⟩|⟨row,rfl,_⟩|⟨b,o,n,row,y,e,rfl,_⟩<;>rfl
def sy0:=And.intro @mI<|And.intro @my<|And.intro @qc<|And.intro @qa<|And.intro @px<|And.intro @pX<|And.intro @min_eq<|And.intro @max_eq<|And.intro @anY<|And.intro @aq7<|And.intro @aqE<|And.intro @alJ<|And.intro @agW<|And.intro @ary<|And.intro @aqO<|And.intro @aqJ<|And.intro @aoO<|And.intro @aqK<|And.intro @aoZ<|And.intro @aqQ<|And.intro @arh<|And.intro @aq8<|And.intro @aq0<|And.intro @j6<|And.intro @aq1<|And.intro @bqT<|And.intro @bqF<|And.intro @qe<|And.intro @mX<| @dP
def sy1:=And.intro @dC<|And.intro @cmp_eq<|And.intro @kK<|And.intro @anJ<|And.intro @aoj<|And.intro @qf<|And.intro @apg<|And.intro @ahQ<|And.intro @eE<|And.intro @aei<|And.intro @jd<|And.intro @jS<|And.intro @yz<|And.intro @kT<|And.intro @yZ<|And.intro @uT<|And.intro @pQ<|And.intro @agP<|And.intro @ai0<|And.intro @ap3<|And.intro @ap6<|And.intro @ape<|And.intro @yW<|And.intro @rM<|And.intro @ann<|And.intro @arG<|And.intro @ajN<|And.intro @anl<|And.intro @apb<| @iK
def sy2:=And.intro @apn<|And.intro @ao1<|And.intro @afz<|And.intro @afp<|And.intro @oE<|And.intro @abC<|And.intro @aep<|And.intro @aka<|And.intro @apS<|And.intro @iltE<|And.intro @igtE<|And.intro @ileE<|And.intro @igeE<|And.intro @ineE<|And.intro @qA<|And.intro @aI<|And.intro @agC<|And.intro @agI<|And.intro @adO<|And.intro @ac7<|And.intro @aa2<|And.intro @af8<|And.intro @aca<|And.intro @aga<|And.intro @abT<|And.intro @ag1<|And.intro @agw<|And.intro @ag3<|And.intro @agT<| @ahE
def sy3:=And.intro @aho<|And.intro @aqx<|And.intro @aru<|And.intro @aoJ<|And.intro @aqC<|And.intro @arz<|And.intro @anN<|And.intro @ap8<|And.intro @aqn<|And.intro @afw<|And.intro @ahp<|And.intro @abx<|And.intro @aha<|And.intro @alu<|And.intro @yU<|And.intro @alb<|And.intro @ao0<|And.intro @asU<|And.intro @apy<|And.intro @adR<|And.intro @lV<|And.intro @yO<| @uO
def syL:=And.intro @List.length_set.{0}<|And.intro @Nat.le_add_right<|And.intro @List.length_cons.{0}<|And.intro @List.length_nil.{0}<|And.intro @List.take_succ_cons.{0}<|And.intro @List.take_zero.{0}<|And.intro @List.drop_succ_cons.{0}<|And.intro @List.drop_zero.{0}<|And.intro @List.cons_append.{0}<|And.intro @List.nil_append.{0}<|And.intro @List.append_nil.{0}<|And.intro @List.drop_nil.{0}<|And.intro @List.take_nil.{0}<|And.intro @List.getElem?_cons_zero.{0}<|And.intro @List.getElem?_cons_succ.{0}<|And.intro @List.set_cons_zero.{0}<|And.intro @List.set_cons_succ.{0}<|And.intro @Nat.zero_add<|And.intro @Nat.add_zero<|And.intro @decide_true<|And.intro @decide_false<|And.intro @Bool.and_true<|And.intro @Bool.true_and<|And.intro @Bool.and_false<|And.intro @Bool.false_and<|And.intro @Bool.not_true<|And.intro @Bool.not_false<| @Nat.le_refl
def sy:=And.intro @sy0<|And.intro @sy1<|And.intro @sy2<|And.intro @sy3<| @syL
end Go.Proofs.YteapfopaiocpeaaGreatDoor
