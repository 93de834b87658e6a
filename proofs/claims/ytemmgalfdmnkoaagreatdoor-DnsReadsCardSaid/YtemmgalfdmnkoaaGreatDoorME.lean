/- Externs, calls told ahead, arguments that came in, rules of symbolic runs, the frame. -/
import Derived.Test.YtemmgalfdmnkoaaGreatDoorMD
import Derived.Laws.Externs
import Derived.Lib.Bytealg
import Derived.Conc.AtomicLaws2
import Derived.Test.YtemmgalfdmnkoaaGreatDoorMB
import Derived.OpenShut
import Derived.ChangeArms
import Derived.ChangeBears
import Derived.RowKit
import Derived.HandedShaped
import Derived.Handed
import Derived.Below
import Derived.Carry
import Derived.FnData
import Derived.WideShapes
import Derived.KernelRfl
namespace Go.Proofs.YtemmgalfdmnkoaaGreatDoor
set_option linter.unusedSimpArgs false
set_option linter.unusedVariables false
set_option linter.unnecessarySimpa false
set_option linter.defProp false
def oJ (P:Program) (C:Cx) (f:Nat) (g:List AV→AH→Option (AV×AH)):Prop:=
 ∀args h v h',g args h=some (v,h')→ ∀ok w ρ us,Inv C ok w ρ h→VL ok w args ρ us→ ∃u w' ok' ρ',(callFunc f us.toArray).run P w= .ok (.value u) w'∧Ext ok w ρ h ok' w' ρ' h'∧Inv C ok' w' ρ' h'∧V ok' w' v ρ' u
structure iF (P:Program) (f:Nat) (e:Array Value→Sem Value):Prop where
 row : ∃ fn, P.funcs[f]? = some fn ∧ (fn.name == "runtime.NumGoroutine") = false ∧ fn.body.isNone = true ∧ Extern.findNext fn = none ∧ Extern.find fn = some e
theorem iF.run {P:Program} {f:Nat} {e:Array Value→Sem Value} (R:iF P f e) (us:Array Value) (w:World):(callFunc f us).run P w=((e us).run P w).andThen fun v w'=>.ok (.value v) w':=by
 obtain ⟨fn,h1,h2,h3,h4,h5⟩:=R.row;exact run_callFunc_extern h1 h2 h3 h4 h5 us w
theorem oJ.pure {P:Program} {C:Cx} {f:Nat} {e:Array Value→Sem Value} (R:iF P f e) {g:List AV→Option AV}
 (h: ∀args v,g args=some v→ ∀ok w ρ us,VL ok w args ρ us→ ∃u,(e us.toArray).run P w= .ok u w∧V ok w v ρ u):oJ P C f (fun args h=>au (g args) fun v=>some (v,h)):=by
 intro args hh v h' e1 ok w ρ us I hv;obtain ⟨x,e2,e3⟩:=ai e1
 cases e3
 obtain ⟨u,h1,h2⟩:=h args v e2 ok w ρ us hv;exact ⟨u,w,ok,ρ,by rw [R.run,h1];rfl,Ext.refl _ _ _ _,I,h2⟩
noncomputable def avQ (l:List AV):Option AV:=
 match l with
 |[.int k1 (.ofNat a),.int k2 (.ofNat b),.int k3 (.ofNat c)]=>bq (and (and (Nat.beq k1 18446744073709551615) (Nat.beq k2 18446744073709551615)) (and (Nat.beq k3 18446744073709551615) (Nat.ble c 1)))
  (some (.tup [.int 18446744073709551615 (.ofNat (Nat.mod (Nat.add (Nat.add a b) c) 18446744073709551616)),.int 18446744073709551615 (.ofNat (Nat.div (Nat.add (Nat.add a b) c) 18446744073709551616))])) none
 |_=>none
theorem aqY {P:Program} {C:Cx} {f:Nat} (R:iF P f add64Entry):oJ P C f (fun args h=>au (avQ args) fun v=>some (v,h)):=by
 refine oJ.pure R (fun args v e ok w ρ us hv=>?_);unfold avQ at e
 split at e
 ·rename_i k1 a k2 b k3 c
  obtain ⟨e1,e2⟩:=aB e
  cases e2
  simp only [Ba] at e1;obtain ⟨⟨h1,h2⟩,h3,h4⟩:=e1;have h4:=Be h4;simp only [VL] at hv;obtain ⟨u1,_,rfl,v1,u2,_,rfl,v2,u3,_,rfl,d,rfl⟩:=hv;simp only [V] at v1 v2 d;obtain ⟨q1,rfl,rfl⟩:=v1;obtain ⟨q2,rfl,rfl⟩:=v2;obtain ⟨q3,rfl,rfl⟩:=d
  cases dM (b:=.u64) h1
  cases dM (b:=.u64) h2
  cases dM (b:=.u64) h3
  have:=run_add64 (P:=P) (a:Int) (b:Int) (c:Int) (by omega) (by omega) (by omega) (by omega) w
  refine ⟨_,this,?_⟩;simp only [V];refine ⟨_,rfl,?_⟩;simp only [VL];refine ⟨_,_,rfl,?_,_,_,rfl,?_,rfl⟩
  ·simp only [V]
   refine ⟨.u64,rfl,?_⟩
   congr 1
  ·simp only [V]
   refine ⟨.u64,rfl,?_⟩
   congr 1
 ·cases e
noncomputable def yL (c:Nat) (l:List Nat):Nat→Int:=List.rec (motive:=fun _=>Nat→Int) (fun _=>.negSucc 0) (fun a _ ih i=>bq (Nat.beq a c) (.ofNat i) (ih (Nat.succ i))) l
noncomputable def alC (l:List AV):Option AV:=
 match l with
 |[.str s,.int k (.ofNat c)]=>bq (and (Nat.beq k 255) (Nat.blt c 256)) (some (.int 9223372036854775807 (yL c s 0))) none
 |_=>none
theorem uC (c:UInt8): ∀(l:List UInt8) (i:Nat),yL c.toNat (l.map UInt8.toNat) i=if Lib.indexByte l c= -1 then-1 else Lib.indexByte l c+i
 |[],i=>rfl
 |a::l,i=>by
  show bq (Nat.beq a.toNat c.toNat) (.ofNat i) (yL c.toNat (l.map UInt8.toNat) (i+1))=_;rw [uC c l (i+1)];have hge:=Lib.indexByte_ge l c
  by_cases h:a=c
  ·subst h
   have e1:Lib.indexByte (a::l) a=0:=by simp [Lib.indexByte]
   rw [Bs,aA,e1]
   simp
  ·have h1:Nat.beq a.toNat c.toNat=false:=by
    rw [BD];intro hh;exact h (UInt8.toNat_inj.1 (A8 hh))
   rw [h1,aE]
   by_cases h3:Lib.indexByte l c= -1
   ·have e1:Lib.indexByte (a::l) c= -1:=by simp [Lib.indexByte,h,h3]
    rw [e1,if_pos h3,if_pos rfl]
   ·have e1:Lib.indexByte (a::l) c=Lib.indexByte l c+1:=by simp [Lib.indexByte,h,h3]
    rw [e1,if_neg h3,if_neg (by omega)]
    push_cast
    omega
theorem an2 {P:Program} {C:Cx} {f:Nat} (R:iF P f Extern.BytealgIndexByte.indexByte):oJ P C f (fun args h=>au (alC args) fun v=>some (v,h)):=by
 refine oJ.pure R (fun args v e ok w ρ us hv=>?_);unfold alC at e
 split at e
 ·rename_i s k c
  obtain ⟨e1,e2⟩:=aB e
  cases e2
  rw [Ba] at e1;have hc:c<256:=by simpa [Ce] using e1.2
  simp only [VL] at hv;obtain ⟨u1,_,rfl,v1,u2,_,rfl,v2,rfl⟩:=hv;simp only [V] at v1 v2;obtain ⟨S,rfl,rfl⟩:=v1;obtain ⟨q,rfl,rfl⟩:=v2
  cases dM (b:=.u8) e1.1
  refine ⟨_,run_indexByte_string S (c:Int) w,?_⟩;simp only [V];refine ⟨.i64,rfl,?_⟩;have h1:=uC (UInt8.ofNat c) S.data.toList 0;have h2:(UInt8.ofNat c).toNat=c:=by simp [UInt8.toNat_ofNat',Dk hc]
  rw [h2] at h1;rw [h1];have h3:Int.toNat (c:Int)=c:=by omega
  rw [h3];have h4:Nat.toUInt8 c=UInt8.ofNat c:=rfl;rw [h4,Lib.firstIdx_eq]
  split
  ·next h=>rw [h]
  ·simp
 ·cases e
noncomputable section
def apI (l:List (List AV×AV)) (args:List AV):Option AV:=List.rec (motive:=fun _=>Option AV) none (fun p _ ih=>bq (AV.same (.agg p.1) (.agg args)) (some p.2) ih) l
def aor (t:BT (List (List AV×AV))) (f:Nat) (args:List AV):Option AV:=au (tv t f) fun l=>apI l args
end
theorem wP: ∀{l:List (List AV×AV)} {args:List AV} {v:AV},apI l args=some v→(args,v)∈l
 |[],args,v,e=>by cases e
 |p::l,args,v,e=>by
  have e:bq (AV.same (.agg p.1) (.agg args)) (some p.2) (apI l args)=some v:=e
  cases h:AV.same (.agg p.1) (.agg args) with
  |true=>
   rw [h] at e
   cases e
   rw [←jB h]
   simp
  |false=>rw [h] at e;exact Bh _ (wP e)
theorem Inv.cR {C C':Cx} (hg:C'.gl=C.gl) {ok:Nat→Prop} {w:World} {ρ:Rho} {h:AH} (I:Inv C ok w ρ h):Inv C' ok w ρ h:=
 ⟨I.okb,I.dom,I.live,I.inj,fun g cs e=>I.gl g cs (by rw [←hg];exact e)⟩
theorem ga.cR {P:Program} {C C':Cx} (hg:C'.gl=C.gl) {f:Nat} {args:List AV} {h:AH} {r:AV} {h':AH} (R:ga P C f args h r h'):ga P C' f args h r h':=
 ⟨R.1,fun ok w ρ us I hv=>(R.2 ok w ρ us (I.cR hg.symm) hv).mono fun e w' ⟨u,ok',ρ',h1,h2,h3,h4⟩=>⟨u,ok',ρ',h1,h2,h3.cR hg,h4⟩⟩
theorem aZ.cR {P:Program} {C C':Cx} (hg:C'.gl=C.gl) {f:Nat} {args:List AV} {v:AV} (R:aZ P C f args v):aZ P C' f args v:=
 ⟨R.1,R.2.1,fun ok w us I hv=>(R.2.2 ok w us (I.cR hg.symm) hv).mono fun e w' ⟨u,ok',h1,h2,h3,h4⟩=>⟨u,ok',h1,h2,h3.cR hg,h4⟩⟩
theorem y9 {P:Program} {C:Cx} (X:c7 P C) {n f:Nat} {args:List AV} {v:AV} (e:au (asB C n f args []) (jF C f [])=some (v,[])) (hl:v.lt 0=true):aZ P C f args v:=by
 obtain ⟨⟨r,h1⟩,e1,e2⟩:=ai e;obtain ⟨q1,q2⟩:=agv X n f args [] r h1 e1;refine ⟨q1,hl,fun ok w us I hv=>(q2 ok w ρ0 us I hv).mono fun en w'=>?_⟩;rintro ⟨u,ok',ρ',rfl,E,I',hv'⟩;obtain ⟨ok2,ρ2,E2,I2,V2⟩:=xw I E I' hv' e2;have hz: ∀n r,ρ2 n=some r→False:=fun n r e=>absurd (I2.dom n r e).1 (Cn n)
 have hρ:ρ2=ρ0:=by
  funext n
  cases h:ρ2 n with
  |none=>rfl
  |some r=>exact (hz n r h).elim
 subst hρ;exact ⟨u,ok2,rfl,E2,I2,V2⟩
def cu (P:Program) (C:Cx) (t:BT (List (List AV×AV))):Prop:=jL (fun f l=>∀p∈l,aZ P C f p.1 p.2) t
theorem cu.rD {P:Program} {C:Cx} {t:BT (List (List AV×AV))} (h:cu P C t): ∀f args v,aor t f args=some v→aZ P C f args v:=by
 intro f args v e;obtain ⟨l,e1,e2⟩:=ai e;exact jL.get h f l e1 (args,v) (wP e2)
noncomputable def Cx.told (C:Cx) (t:BT (List (List AV×AV))):Cx:={C with rD:=aor t}
theorem nS (C:Cx) (t:BT (List (List AV×AV))):(C.told t).gl=C.gl:=rfl
theorem c7.told {P:Program} {C:Cx} (X:c7 P C) {t:BT (List (List AV×AV))} (h:cu P C t):c7 P (C.told t):=
 ⟨X.ty,X.one,X.fl,X.fn,fun f g e args h v h' k ok w ρ us I hv=>by
  obtain ⟨u,w',ok',ρ',h1,h2,h3,h4⟩:=X.ext f g e args h v h' k ok w ρ us (I.cR (nS C t).symm) hv;exact ⟨u,w',ok',ρ',h1,h2,h3.cR (nS C t),h4⟩,
  fun f args v e=>(h.rD f args v e).cR (nS C t),
  fun f g e run H args h r h' k=>(X.orc f g e run (fun f args h r h' k=>(H f args h r h' k).cR (nS C t).symm) args h r h' k).cR (nS C t),X.mixed,X.sq⟩
theorem cu.cR {P:Program} {C C':Cx} (hg:C'.gl=C.gl) {t:BT (List (List AV×AV))} (h:cu P C t):cu P C' t:=by
 induction t with
 |nl=>trivial
 |lf k l=>exact fun p hp=>(h p hp).cR hg
 |nd m a b iha ihb=>exact ⟨iha h.1,ihb h.2⟩
abbrev Ent:=List AV×AH×AV×AH
noncomputable def anD (l:List Ent) (args:List AV) (h:AH):Option (AV×AH):=List.rec (motive:=fun _=>Option (AV×AH)) none (fun p _ ih=>bq (AV.same (.agg p.1) (.agg args)) (bq (gm p.2.1 h) (some p.2.2) ih) ih) l
theorem uy: ∀{l:List Ent} {args:List AV} {h:AH} {x:AV×AH},anD l args h=some x→(args,h,x)∈l
 |[],args,h,x,e=>by cases e
 |p::l,args,h,x,e=>by
  have e:bq (AV.same (.agg p.1) (.agg args)) (bq (gm p.2.1 h) (some p.2.2) (anD l args h)) (anD l args h)=some x:=e
  cases h1:AV.same (.agg p.1) (.agg args) with
  |true=>
   rw [h1,aA] at e
   cases h2:gm p.2.1 h with
   |true=>
    rw [h2,aA] at e
    cases e
    rw [←jB h1,←mO h2]
    simp
   |false=>rw [h2] at e;exact Bh _ (uy e)
  |false=>rw [h1] at e;exact Bh _ (uy e)
def gy (P:Program) (C:Cx) (t:BT (List Ent)):Prop:=jL (fun f l=>∀p∈l,ga P C f p.1 p.2.1 p.2.2.1 p.2.2.2) t
theorem gy.cR {P:Program} {C C':Cx} {t:BT (List Ent)} (h:gy P C t) (hg:C'.gl=C.gl):gy P C' t:=by
 induction t with
 |nl=>trivial
 |lf k l=>exact fun p hp=>(h p hp).cR hg
 |nd m a b iha ihb=>exact ⟨iha h.1,ihb h.2⟩
noncomputable def Cx.heard (C:Cx) (t:BT (List Ent)):Cx:={C with orc:=fun f=>Option.rec (motive:=fun _=>Option (Run→List AV→AH→Option (AV×AH))) (C.orc f) (fun l=>some fun _=>anD l) (tv t f)}
theorem js (C:Cx) (t:BT (List Ent)):(C.heard t).gl=C.gl:=rfl
theorem c7.heard {P:Program} {C:Cx} (X:c7 P C) {t:BT (List Ent)} (h0:gy P C t):c7 P (C.heard t):=
 ⟨X.ty,X.one,X.fl,X.fn,fun f g e args h v h' k ok w ρ us I hv=>by
  obtain ⟨u,w',ok',ρ',h1,h2,h3,h4⟩:=X.ext f g e args h v h' k ok w ρ us (I.cR (js C t).symm) hv;exact ⟨u,w',ok',ρ',h1,h2,h3.cR (js C t),h4⟩,
  fun f args v e=>(X.rD f args v e).cR (js C t),
  fun f g e run H args h r h' k=>by
   have e:Option.rec (motive:=fun _=>Option (Run→List AV→AH→Option (AV×AH))) (C.orc f) (fun l=>some fun _=>anD l) (tv t f)=some g:=e
   cases hb:tv t f with
   |some l=>
    rw [hb] at e
    cases e
    exact (jL.get h0 f l hb (args,h,r,h') (uy k)).cR (js C t)
   |none=>
    rw [hb] at e;exact (X.orc f g e run (fun f args h r h' k=>(H f args h r h' k).cR (js C t).symm) args h r h' k).cR (js C t),X.mixed,X.sq⟩
theorem aX {P:Program} {C:Cx} {t:BT (List (List AV×AV))} {H:BT (List Ent)} {f:Nat} {args:List AV} {v:AV} (X:c7 P C) (ht:cu P C t) (hH:gy P C H) (e:au (asB ((C.told t).heard H) 4000 f args []) (jF ((C.told t).heard H) f [])=some (v,[])) (hl:v.lt 0=true):aZ P C f args v:=aZ.cR (by rfl) (y9 ((X.told ht).heard (hH.cR rfl)) e hl)
theorem lM {P:Program} {C:Cx} {t:BT (List (List AV×AV))} {H:BT (List Ent)} {f:Nat} {args:List AV} {h:AH} {r:AV} {h':AH} (X:c7 P C) (ht:cu P C t) (hH:gy P C H) (e:asB ((C.told t).heard H) 4000 f args h=some (r,h')):ga P C f args h r h':=ga.cR (by rfl) (agv ((X.told ht).heard (hH.cR rfl)) 4000 f args h r h' e)
theorem ab8 (w:World) (r j:Nat) (arr:Array Value) (e:TypeId) (fr:Nat×Nat) (v:Value) (h:w.heap[r]? =some (.cells arr e fr)):w.setCell ⟨r,j,none⟩ v=w.setRow r (arr.setIfInBounds j v):=by
 unfold World.setCell World.setRow
 congr 1
 apply Array.ext_getElem?;intro i;simp only [C6]
 split
 ·subst_vars
  rw [h]
  simp
 ·rfl
section
variable {P:Program} {C:Cx} {ok:Nat→Prop} {w:World} {ρ:Rho} {h:AH}
theorem fI (I:Inv C ok w ρ h) {b o y:Nat} {cs:List AV} {c:AV} (hb:ab h b=some (.cells cs y)) (hc:dQ cs o=some c):
 ∃r u,ρ b=some r∧w.cell? ⟨r,o,none⟩=some u∧V ok w c ρ u∧w.frozen? ⟨r,o,none⟩=false∧
  ∀c' u',V ok w c' ρ u'→Ext ok w ρ h ok (w.setCell ⟨r,o,none⟩ u') ρ (bH (some (.cells (bH c' cs o) y)) h b)∧Inv C ok (w.setCell ⟨r,o,none⟩ u') ρ (bH (some (.cells (bH c' cs o) y)) h b):=by
 obtain ⟨r,arr,e,fr,k1,k2,k3,k4,k5,k6,k7⟩:=tQ I hb;obtain ⟨q,g1,g2,arr0,e0,fr0,g3,g4,g5,g6⟩:=I.live b _ hb;rw [k1] at g1;cases g1;rw [k3] at g3;cases g3;rw [bI] at hc;obtain ⟨u,c1,c2⟩:=yK g5 hc;rw [BE] at c1;have hlt:o<cs.length:=(Bc.1 hc).1;refine ⟨r,u,k1,c1,c2,?_,fun c' u' hv=>?_⟩
 ·obtain ⟨lo,hi⟩:=fr
  have:=g4 o (by omega)
  simp [World.frozen?,k3]
  simp at this
  omega
 ·rw [ab8 w r o arr _ fr _ k3]
  refine k7 (bH c' cs o) (arr.setIfInBounds o u') (by simp) ?_;rw [cK,Bb,B0,oO];exact vk o k5 hv
end
noncomputable section
def fN (h:AH) (b o:Nat) (f:AV→(AV→AH)→Option (AV×AH)):Option (AV×AH):=
 match ab h b with
 |some (.cells cs y)=>au (dQ cs o) fun c=>f c fun v=>bH (some (.cells (bH v cs o) y)) h b
 |_=>none
def mM (m:Nat) (c:AV) (f:Int→Option (AV×AH)):Option (AV×AH):=
 match c with
 | .int k n=>bq (Nat.beq k m) (f n) none
 |_=>none
def pP (m:Nat) (args:List AV) (h:AH):Option (AV×AH):=
 match args with
 |[.pto b o]=>fN h b o fun c _=>mM m c fun n=>some (.int m n,h)
 |_=>none
def vB (m:Nat) (args:List AV) (h:AH):Option (AV×AH):=
 match args with
 |[.pto b o,x]=>fN h b o fun c s=>mM m c fun _=>mM m x fun n=>some (.tup [],s (.int m n))
 |_=>none
def nH (m:Nat) (args:List AV) (h:AH):Option (AV×AH):=
 match args with
 |[.pto b o,x]=>fN h b o fun c s=>mM m c fun z=>mM m x fun n=>some (.int m (aQ m (cg z n)),s (.int m (aQ m (cg z n))))
 |_=>none
def adj (m:Nat) (args:List AV) (h:AH):Option (AV×AH):=
 match args with
 |[.pto b o,x,x']=>fN h b o fun c s=>mM m c fun z=>mM m x fun n=>mM m x' fun n'=>bq (cD z n) (some (.bool true,s (.int m n'))) (some (.bool false,h))
 |_=>none
end
theorem dZ {h:AH} {b o:Nat} {f:AV→(AV→AH)→Option (AV×AH)} {r:AV×AH} (e:fN h b o f=some r): ∃cs y c,ab h b=some (.cells cs y)∧dQ cs o=some c∧f c (fun v=>bH (some (.cells (bH v cs o) y)) h b)=some r:=by
 unfold fN at e
 split at e
 ·rename_i cs y hb
  obtain ⟨c,e1,e2⟩:=ai e;exact ⟨cs,y,c,hb,e1,e2⟩
 ·cases e
theorem dx {m:Nat} {c:AV} {f:Int→Option (AV×AH)} {r:AV×AH} (e:mM m c f=some r): ∃n,c= .int m n∧f n=some r:=by
 unfold mM at e
 split at e
 ·rename_i k n
  obtain ⟨e1,e2⟩:=aB e;obtain rfl:=A8 e1;exact ⟨n,rfl,e2⟩
 ·cases e
section
variable {P:Program} {C:Cx} {f:Nat} {k:IntKind}
theorem mH {ok:Nat→Prop} {w:World} {ρ:Rho} {n:Int} {u:Value} (h:V ok w (.int (cT k) n) ρ u):u= .int k n:=by
 simp only [V] at h;obtain ⟨k',h1,rfl⟩:=h
 cases k<;>cases k'<;>first|rfl|(exact absurd h1 (by decide))
theorem hI {ok:Nat→Prop} {w:World} {ρ:Rho} {n:Int}:V ok w (.int (cT k) n) ρ (.int k n):=by
 simp only [V];exact ⟨k,rfl,rfl⟩
theorem uM {w:World} {ad:Addr} {v:Int} (hc:w.cell? ad=some (.int k v)):(Extern.Atomic.loadT (.int k) #[.pointer (some ad)]).run P w= .ok (.int k v) w:=by
 change Sem.run P (do Extern.Atomic.read (.int k) (←asAddr (.pointer (some ad)))) w=_
 simp [Extern.Atomic.read,asAddr,hc,Result.andThen]
theorem tz {w:World} {ad:Addr} {v n:Int} (hc:w.cell? ad=some (.int k v)) (hz:w.frozen? ad=false):(Extern.Atomic.storeT #[.pointer (some ad),.int k n]).run P w= .ok (.tuple #[]) (w.setCell ad (.int k n)):=by
 change Sem.run P (do
  store (←asAddr (.pointer (some ad))) (.int k n) .atomic
  pure Extern.Atomic.none_) w=_
 simp [Extern.Atomic.none_,asAddr,hc,hz,run_store P w ad (.int k n) .atomic rfl,Result.andThen]
theorem ai2 (R:iF P f (Extern.Atomic.loadT (.int k))):oJ P C f (pP (cT k)):=by
 intro args h v h' e ok w ρ us I hv;unfold pP at e
 split at e
 ·rename_i b o
  obtain ⟨cs,y,c,e1,e2,e3⟩:=dZ e;obtain ⟨n,rfl,e4⟩:=dx e3
  cases e4
  obtain ⟨r,u,g1,g2,g3,g4,g5⟩:=fI I e1 e2;simp only [VL] at hv;obtain ⟨u1,_,rfl,v1,rfl⟩:=hv;simp only [V] at v1;obtain ⟨r',h1,rfl⟩:=v1;rw [g1] at h1;cases h1
  cases mH g3
  exact ⟨_,w,ok,ρ,by rw [R.run,uM g2];rfl,Ext.refl _ _ _ _,I,hI⟩
 ·cases e
theorem aef (R:iF P f Extern.Atomic.storeT):oJ P C f (vB (cT k)):=by
 intro args h v h' e ok w ρ us I hv;unfold vB at e
 split at e
 ·rename_i b o x
  obtain ⟨cs,y,c,e1,e2,e3⟩:=dZ e;obtain ⟨z,rfl,e4⟩:=dx e3;obtain ⟨n,rfl,e5⟩:=dx e4
  cases e5
  obtain ⟨r,u,g1,g2,g3,g4,g5⟩:=fI I e1 e2;simp only [VL] at hv;obtain ⟨u1,_,rfl,v1,u2,_,rfl,v2,rfl⟩:=hv;simp only [V] at v1;obtain ⟨r',h1,rfl⟩:=v1;rw [g1] at h1;cases h1
  cases mH g3
  cases mH v2
  obtain ⟨E,I'⟩:=g5 (.int (cT k) n) (.int k n) hI;exact ⟨_,_,ok,ρ,by rw [R.run,tz g2 g4];rfl,E,I',by simp only [V];exact ⟨#[],rfl,by simp only [VL]⟩⟩
 ·cases e
theorem vy (hk: ∀n,aQ (cT k) n=k.wrap n) (R:iF P f (Extern.Atomic.update (Op.intArith .add) k true)):oJ P C f (nH (cT k)):=by
 intro args h v h' e ok w ρ us I hv;unfold nH at e
 split at e
 ·rename_i b o x
  obtain ⟨cs,y,c,e1,e2,e3⟩:=dZ e;obtain ⟨z,rfl,e4⟩:=dx e3;obtain ⟨n,rfl,e5⟩:=dx e4
  cases e5
  obtain ⟨r,u,g1,g2,g3,g4,g5⟩:=fI I e1 e2;simp only [VL] at hv;obtain ⟨u1,_,rfl,v1,u2,_,rfl,v2,rfl⟩:=hv;simp only [V] at v1;obtain ⟨r',h1,rfl⟩:=v1;rw [g1] at h1;cases h1
  cases mH g3
  cases mH v2
  have hi:cg z n=z+n:=by cases z<;>cases n<;>simp [cg]<;>rfl
  obtain ⟨E,I'⟩:=g5 (.int (cT k) (aQ (cT k) (cg z n))) (.int k (k.wrap (z+n))) (by rw [hk,hi];exact hI)
  exact ⟨_,_,ok,ρ,by rw [R.run,Go.Conc.run_add_entry g2 g4];rfl,E,I',by rw [hk,hi];exact hI⟩
 ·cases e
theorem anv (R:iF P f (Extern.Atomic.casT (.int k))):oJ P C f (adj (cT k)):=by
 intro args h v h' e ok w ρ us I hv;unfold adj at e
 split at e
 ·rename_i b o x x'
  obtain ⟨cs,y,c,e1,e2,e3⟩:=dZ e;obtain ⟨z,rfl,e4⟩:=dx e3;obtain ⟨n,rfl,e5⟩:=dx e4;obtain ⟨n',rfl,e6⟩:=dx e5;obtain ⟨r,u,g1,g2,g3,g4,g5⟩:=fI I e1 e2;simp only [VL] at hv;obtain ⟨u1,_,rfl,v1,u2,_,rfl,v2,u3,_,rfl,a,rfl⟩:=hv;simp only [V] at v1;obtain ⟨r',h1,rfl⟩:=v1;rw [g1] at h1;cases h1
  cases mH g3
  cases mH v2
  cases mH a
  have hi:cD z n=decide (z=n):=by
   cases z<;>cases n<;>simp [cD]<;>(try (rw [B9];simp))<;>(try omega)
  rw [hi] at e6
  by_cases hz:z=n
  ·subst hz
   rw [decide_eq_true rfl,aA] at e6
   cases e6
   obtain ⟨E,I'⟩:=g5 (.int (cT k) n') (.int k n') hI;exact ⟨_,_,ok,ρ,by rw [R.run];show ((Extern.Atomic.casT (.int k) #[.pointer (some _),.int k z,.int k n']).run P w).andThen _=_;rw [Go.Conc.casT_eq,Go.Conc.run_cas_hit_entry g2 g4];rfl,E,I',by simp only [V]⟩
  ·rw [decide_eq_false hz,aE] at e6
   cases e6
   exact ⟨_,_,ok,ρ,by rw [R.run];show ((Extern.Atomic.casT (.int k) #[.pointer (some _),.int k n,.int k n']).run P w).andThen _=_;rw [Go.Conc.casT_eq,Go.Conc.run_cas_miss_entry g2 g4 hz];rfl,Ext.refl _ _ _ _,I,by simp only [V]⟩
 ·cases e
end
noncomputable section
def akc (run:Nat→List AV→AH→Option (AV×AH)) (args:List AV) (h:AH):Option (AV×AH):=
 match args with
 |[.pto b o,.fn f [] [.pto q z]]=>
  fN h b o fun c0 _=>mM 4294967295 c0 fun d=>bq (cD d 0) (fN h b (Nat.succ o) fun c1 s1=>mM 2147483647 c1 fun m=>bq (cD m 0)
   (au (run f [.pto q z] (s1 (.int 2147483647 1))) fun x=>fN x.2 b o fun c2 s2=>mM 4294967295 c2 fun _=>
    fN (s2 (.int 4294967295 1)) b (Nat.succ o) fun c3 s3=>mM 2147483647 c3 fun m'=>bq (cD m' 1) (some (.tup [],s3 (.int 2147483647 0))) none) none) none
 |_=>none
end
noncomputable section
end
theorem avk: ∀{m:Nat} {k:IntKind},(∀n,qO m n=k.wrap n)→(∀n:Nat,n≤m→k.wrap n=n)→ ∀n,aQ m n=k.wrap n:=by
 intro m k hk hm n
 cases n with
 |ofNat a=>
  show bq (Nat.ble a m) (Int.ofNat a) (qO m (.ofNat a))=_
  by_cases h:a≤m
  ·rw [BH h];exact (hm a h).symm
  ·have:Nat.ble a m=false:=by rw [BD];intro c;exact h (Be c)
   rw [this];exact hk _
 |negSucc a=>exact hk _
theorem aks (k:IntKind) (n:Int):aQ (cT k) n=k.wrap n:=by
 cases k<;>(refine avk (fun _=>rfl) (fun n hn=>?_) n;simp [cT] at hn;simp [IntKind.wrap,IntKind.min,IntKind.max,IntKind.signed,IntKind.bits];omega)
def TyL (T:TypeId→List AV→Prop):List TypeId→List AV→Prop
 |[],as=>as=[]
 |t::ts,as=>∃a r,as=a++r∧T t a∧TyL T ts r
def TyC (P:Program):Nat→TypeId→List AV→Prop
 |0,_,_=>False
 |n+1,t,as=>as.length=P.cellsOf t∧match P.underlying t with
  |some .bool=>∃b,as=[.bool b]
  |some (.int k)=>∃x,as=[.int (cT k) x]∧(Lit.int k x).wf=true
  |some .string=>∃l,as=[.str l]∧(∀b∈l,b<256)∧l.length≤maxLen
  |some (.struct fs)=>TyL (TyC P n) (fs.toList.map (·.type)) as
  |some (.array m e)=>TyL (TyC P n) (List.replicate m e) as
  |some (.slice e)=>as=[.aa]∨as=[.sle]∨ ∃cs len,as=[.slp cs len]∧0<len∧len≤maxLen∧TyL (TyC P n) (List.replicate len e) cs
  |_=>False
section
variable {P:Program} {w:World} {ok:Nat→Prop}
theorem TyC.len {n:Nat} {t:TypeId} {as:List AV} (h:TyC P n t as):as.length=P.cellsOf t:=by
 cases n with
 |zero=>exact h.elim
 |succ n=>exact h.1
theorem TyL.len {n:Nat}: ∀{ts:List TypeId} {as:List AV},TyL (TyC P n) ts as→as.length=(ts.map P.cellsOf).sum
 |[],as,h=>by rw [show as=[] from h];rfl
 |t::ts,as,h=>by
  obtain ⟨a,r,rfl,h1,h2⟩:=h;rw [A7,h1.len,TyL.len h2];simp
theorem yG (c:Nat): ∀n,(List.replicate n c).sum=n*c
 |0=>by simp
 |n+1=>by rw [CI,List.sum_cons,yG c n,Ct];omega
theorem TyL.elem {T:TypeId→List AV→Prop} {e:TypeId} {c:Nat} (hc: ∀as,T e as→as.length=c): ∀{len:Nat} {cs:List AV},TyL T (List.replicate len e) cs→ ∀i,i<len→T e ((cs.drop (i*c)).take c)
 |0,_,_,i,hi=>by omega
 |len+1,cs,h,i,hi=>by
  rw [CI] at h;obtain ⟨a,r,rfl,h1,h2⟩:=h;have hl:=hc a h1
  cases i with
  |zero=>simpa [←hl] using h1
  |succ i=>
   have:=TyL.elem hc h2 i (by omega)
   rw [show (i+1)*c=a.length+i*c by rw [Ct,hl];omega,List.drop_append,Cw (by omega),BO,BK]
   exact this
theorem build (T:TypeId→List AV→Prop): ∀(ts:List TypeId) (cs:List Value),cs.length=(ts.map P.cellsOf).sum→
 (∀(j:Nat) t,ts[j]? =some t→ ∃as,VL ok w as ρ0 ((cs.drop ((ts.take j).map P.cellsOf).sum).take (P.cellsOf t))∧T t as)→ ∃as,VL ok w as ρ0 cs∧TyL T ts as
 |[],cs,hl,_=>by
  obtain rfl:cs=[]:=by simpa using hl
  exact ⟨[],by simp [VL],rfl⟩
 |t::ts,cs,hl,H=>by
  obtain ⟨a,ha,hT⟩:=H 0 t rfl;obtain ⟨r,hr,hR⟩:=build T ts (cs.drop (P.cellsOf t)) (by simp at hl ⊢;omega) (fun j u hj=>by
   obtain ⟨as,h1,h2⟩:=H (j+1) u (by simpa using hj);refine ⟨as,?_,h2⟩;rw [Bu]
   simpa using h1)
  refine ⟨a++r,?_,a,r,rfl,hT,hR⟩
  have:=gH ha hr
  simpa using this
theorem afw {ok:Nat→Prop} {w:World}: ∀{a b:List AV} {ρ:Rho} {r p:Nat},VAt ok w a ρ r p→VAt ok w b ρ r (p+a.length)→VAt ok w (a++b) ρ r p
 |[],b,ρ,r,p,_,h=>by simpa using h
 |x::a,b,ρ,r,p,h1,h2=>by
  simp only [VAt,Ca] at h1 ⊢;exact ⟨h1.1,afw h1.2 (by rw [show p+1+a.length=p+(x::a).length by simp;omega];exact h2)⟩
theorem qP {ok:Nat→Prop} {w:World} {ρ:Rho} {r:Nat}: ∀{as:List AV} {us:List Value} {p:Nat},VL ok w as ρ us→(∀i (h:i<us.length),w.cell? ⟨r,p+i,none⟩=some us[i])→VAt ok w as ρ r p
 |[],us,p,_,_=>by simp only [VAt]
 |a::as,us,p,h,H=>by
  simp only [VL] at h;obtain ⟨u,rest,rfl,h1,h2⟩:=h;simp only [VAt];refine ⟨⟨u,H 0 (by simp),h1⟩,qP h2 fun i hi=>?_⟩
  have:=H (i+1) (by simpa using hi)
  rw [show p+1+i=p+(i+1) by omega]
  simpa using this
theorem aeB (T:TypeId→List AV→Prop) (e:TypeId) (c r:Nat) (hc: ∀as,T e as→as.length=c): ∀(len p:Nat),
 (∀i,i<len→ ∃us as,us.length=c∧(∀j (h:j<us.length),w.cell? ⟨r,p+i*c+j,none⟩=some us[j])∧VL ok w as ρ0 us∧T e as)→ ∃cs,VAt ok w cs ρ0 r p∧TyL T (List.replicate len e) cs
 |0,p,_=>⟨[],by simp only [VAt],rfl⟩
 |len+1,p,H=>by
  obtain ⟨us,as,h1,h2,h3,h4⟩:=H 0 (by omega);obtain ⟨cs,k1,k2⟩:=aeB T e c r hc len (p+c) (fun i hi=>by
   obtain ⟨us,as,h1,h2,h3,h4⟩:=H (i+1) (by omega);refine ⟨us,as,h1,fun j hj=>?_,h3,h4⟩;rw [show p+c+i*c+j=p+(i+1)*c+j by rw [Ct];omega];exact h2 j hj)
  refine ⟨as++cs,afw (qP h3 fun i hi=>?_) ?_,?_⟩
  ·simpa using h2 i hi
  ·rw [hc as h4];exact k1
  ·rw [CI];exact ⟨as,cs,rfl,h4,k2⟩
theorem xW {w:World} {base:Nat} {a:Addr} {n:Nat} {us:List Value} (h:w.cells? base a n=some us):us.length=n∧ ∀j (hj:j<us.length),w.cell? (a.add j)=some us[j]:=by
 unfold World.cells? at h
 split at h
 ·have h1:=mapM_some_length h
  refine ⟨by simpa using h1,fun j hj=>?_⟩
  have:=mapM_some_get h j j (by rw [Cy (by simp at h1;omega)])
  rw [this,Bd hj]
 ·cases h
def pU (P:Program) (ts:List TypeId) (t:TypeId):Bool:=decide (t<P.types.size)&&match P.underlying t with
 |some .bool|some .string=>P.cellsOf t==1
 |some (.int _)=>P.cellsOf t==1
 |some (.struct fs)=>fs.toList.all fun f=>ts.contains f.type
 |some (.array _ e)=>ts.contains e
 |some (.slice e)=>P.cellsOf t==1&&ts.contains e&&decide (0<P.cellsOf e)
 |_=>false
def tI (P:Program) (ts:List TypeId):Bool:=ts.all (pU P ts)
theorem uu {ts:List TypeId} (h:tI P ts=true) {t:TypeId} (ht:t∈ts):pU P ts t=true:=BG.1 h t ht
variable {H:Type} {enc:TypeId×Value→H} {base:Nat} {spare:Nat→Bool}
theorem ard (hl:laidOutB P=true) {ts:List TypeId} (hc:tI P ts=true): ∀(n:Nat) (t:TypeId) (cs:List Value) (x:DataW H×List MemPlace),t∈ts→
 DataW.trod enc P w base spare true n t cs=some x→(∀p∈x.2,p.block<w.heap.size)→ ∃as,VL (· <w.heap.size) w as ρ0 cs∧TyC P n t as:=by
 intro n
 induction n with
 |zero=>intro t cs x ht h _;simp [DataW.trod] at h
 |succ n ih=>
  intro t cs x ht h hp;have hr:=uu hc ht;unfold pU at hr;rw [Ba] at hr;obtain ⟨hlt,hr⟩:=hr;have hlt:=of_decide_eq_true hlt
  cases hu:P.underlying t with
  |none=>rw [hu] at hr;cases hr
  |some d=>
   rw [hu] at hr
   cases d with
   |bool=>
    obtain ⟨b,rfl,_⟩:=DataW.trod_bool hu h;refine ⟨[.bool b],by simp [VL,V],(beq_iff_eq.1 hr).symm,?_⟩;rw [hu];exact ⟨b,rfl⟩
   |int k=>
    obtain ⟨m,rfl,_,hw⟩:=DataW.trod_int hu h;refine ⟨[.int (cT k) m],by simp [VL,V],(beq_iff_eq.1 hr).symm,?_⟩;rw [hu];exact ⟨m,rfl,hw⟩
   |string=>
    obtain ⟨s,rfl,_,hs⟩:=DataW.trod_string hu h;refine ⟨[.str (s.data.toList.map UInt8.toNat)],by simp [VL,V],(beq_iff_eq.1 hr).symm,?_⟩;rw [hu];refine ⟨_,rfl,?_,?_⟩
    ·intro b hb
     obtain ⟨c,_,rfl⟩:=Cg.1 hb;exact c.toNat_lt
    ·simpa using hs
   |struct fs=>
    obtain ⟨xs,m,hm,rfl,hlen,hx,hel⟩:=DataW.trod_struct hu h;obtain rfl:=Nat.succ.inj hm;obtain ⟨_,h2,h3⟩:=kid_struct hl hlt hu;have hin: ∀f∈fs.toList,f.type∈ts:=fun f hf=>by simpa using BG.1 hr f hf
    obtain ⟨as,hv,hT⟩:=build (P:=P) (w:=w) (ok:=(· <w.heap.size)) (TyC P n) (fs.toList.map (·.type)) cs (by rw [hlen,h2,Ds];rfl) (fun j u hj=>by
     simp only [Bn,Option.map_eq_some_iff] at hj;obtain ⟨f,hf,rfl⟩:=hj;have hj':j<xs.length:=by rw [hx];simpa using (Bc.1 hf).1
     have e:=hel j f (by simpa using hf);rw [Bd hj',h3 j f hf] at e;obtain ⟨as,k1,k2⟩:=ih f.type _ _ (hin f (Bg hf)) e (fun p hp'=>hp p (CZ.2 ⟨_,CE hj',hp'⟩));refine ⟨as,?_,k2⟩;rw [←List.map_take,Ds];exact k1)
    refine ⟨as,hv,by rw [←cm hv];exact hlen,?_⟩
    rw [hu];exact hT
   |array m e=>
    obtain ⟨xs,k,hk,rfl,hlen,hx,hel⟩:=DataW.trod_array hu h;obtain rfl:=Nat.succ.inj hk;have h2:=(kid_array hl hlt hu).2;obtain ⟨as,hv,hT⟩:=build (P:=P) (w:=w) (ok:=(· <w.heap.size)) (TyC P n) (List.replicate m e) cs (by rw [hlen,h2,List.map_replicate,yG]) (fun j u hj=>by
     rw [List.getElem?_replicate] at hj
     by_cases hj1:j<m
     case neg=>rw [if_neg hj1] at hj;cases hj
     rw [if_pos hj1] at hj
     cases hj
     have hj':j<xs.length:=by omega
     have e:=hel j hj1;rw [Bd hj'] at e;obtain ⟨as,k1,k2⟩:=ih _ _ _ (by simpa using hr) e (fun p hp'=>hp p (CZ.2 ⟨_,CE hj',hp'⟩));refine ⟨as,?_,k2⟩;rw [List.take_replicate,List.map_replicate,yG,show min j m=j by omega];exact k1)
    refine ⟨as,hv,by rw [←cm hv];exact hlen,?_⟩
    rw [hu];exact hT
   |slice e=>
    rw [Ba,Ba] at hr;obtain ⟨⟨hr1,hr2⟩,hr3⟩:=hr;have hr3:=of_decide_eq_true hr3;rcases DataW.trod_slice hu h with ⟨rfl,_⟩|⟨a,len,cap,elems,rest,k,hk,rfl,rfl,hb,hlc,hcm,hn,hel,_,_⟩
    ·refine ⟨[.aa],by simp [VL,V],(beq_iff_eq.1 hr1).symm,?_⟩
     rw [hu];exact .inl rfl
    obtain rfl:=Nat.succ.inj hk
    by_cases h0:len=0
    ·subst h0
     refine ⟨[.sle],by simp [VL,V],(beq_iff_eq.1 hr1).symm,?_⟩;rw [hu];exact .inr (.inl rfl)
    obtain ⟨b,off,spot⟩:=a;have hfirst:=hel 0 (by omega);rw [Bd (by omega),Option.bind_eq_some_iff] at hfirst;obtain ⟨us0,hc0,_⟩:=hfirst;have hspot:spot=none:=by
     obtain ⟨g1,g2⟩:=xW hc0
     simpa [Addr.add] using World.cell?_spot (g2 0 (by omega))
    subst hspot;have hblt:b<w.heap.size:=by
     have hmem:MemPlace.cell b off∈MemPlace.row ⟨b,off,none⟩ ((elems.length+rest.length)*P.cellsOf e):=by
      refine Cg.2 ⟨0,Dr.2 (Nat.mul_pos (by omega) hr3),rfl⟩
     exact hp _ (Cr _ hmem)
    obtain ⟨as,k1,k2⟩:=aeB (w:=w) (ok:=(· <w.heap.size)) (TyC P n) e (P.cellsOf e) b (fun as h=>h.len) len off (fun i hi=>by
     have e1:=hel i hi;rw [Bd (by omega),Option.bind_eq_some_iff] at e1;obtain ⟨us,c1,c2⟩:=e1;obtain ⟨g1,g2⟩:=xW c1;obtain ⟨as,v1,v2⟩:=ih e us _ (by simpa using hr2) c2 (fun p hp'=>hp p (C7 _ (CZ.2 ⟨_,Cr _ (CE (by omega)),hp'⟩)));refine ⟨us,as,g1,fun j hj=>?_,v1,v2⟩
     have:=g2 j hj
     rwa [Go.WideShapes.add_plain,Go.WideShapes.add_plain] at this)
    refine ⟨[.slp as len],?_,(beq_iff_eq.1 hr1).symm,?_⟩
    ·simp only [VL,V]
     exact ⟨_,_,rfl,⟨b,off,cap,hblt,rfl,hlc,k1⟩,rfl⟩
    ·rw [hu];exact .inr (.inr ⟨as,len,rfl,by omega,by omega,k2⟩)
   |_=>cases hr
end
section
variable {C:Cx} {run:Run} {lp:Lp} {s:St} {h:AH} {κ:Ka}
theorem lJ (a b:Nat):Nat.beq a b=decide (a=b):=by
 by_cases e:a=b
 ·subst e;simp
 ·have:Nat.beq a b=false:=by rw [BD];intro c;exact e (A8 c)
  rw [this];simp [e]
theorem cq (a b:Nat):Nat.ble a b=decide (a≤b):=by
 by_cases e:a≤b
 ·rw [BH e];simp [e]
 ·have:Nat.ble a b=false:=by rw [BD];intro c;exact e (Be c)
  rw [this];simp [e]
theorem wG (a b:Nat):Nat.blt a b=decide (a<b):=cq _ _
theorem va (a b:Int):cD a b=decide (a=b):=by
 cases a<;>cases b<;>simp [cD,lJ]<;>omega
theorem xI (a b:Int):vR a b=decide (a<b):=by
 cases a<;>cases b<;>simp [vR,wG]<;>omega
theorem iltE (a b:Int):ilt a b=decide (a<b):=xI a b
theorem av1 (a b:Int):igt a b=decide (b<a):=xI b a
theorem ileE (a b:Int):ile a b=decide (a≤b):=by
 unfold ile;rw [xI];by_cases h:a≤b<;>simp [h]<;>omega
theorem igeE (a b:Int):ige a b=decide (b≤a):=by
 unfold ige;rw [xI];by_cases h:b≤a<;>simp [h]<;>omega
theorem ineE (a b:Int):ine a b=decide (a≠b):=by
 unfold ine;rw [va];simp
theorem bK {α:Type} {p:Prop} [Decidable p] (h:p) (a b:α):bq (decide p) a b=a:=by rw [decide_eq_true h];rfl
theorem jk {α:Type} {p:Prop} [Decidable p] (h: ¬p) (a b:α):bq (decide p) a b=b:=by rw [decide_eq_false h];rfl
theorem mA (a b:Int):cg a b=a+b:=by
 cases a<;>cases b<;>simp [cg]<;>rfl
theorem axk (a b:Int):jC a b=a-b:=by
 cases a with
 |ofNat m=>cases b with
  |ofNat n=>
   show bq (Nat.ble n m) (Int.ofNat (Nat.sub m n)) (Int.sub (.ofNat m) (.ofNat n))=_;rw [cq]
   by_cases h:n≤m
   ·rw [bK h]
    show ((m-n:Nat):Int)=(m:Int)-(n:Int);omega
   ·rw [jk h];rfl
  |negSucc n=>rfl
 |negSucc m=>rfl
theorem afz (a b:Int):mL a b=a*b:=by
 cases a<;>cases b<;>simp [mL]<;>rfl
theorem agN (n:Int):qO 9223372036854775807 n=IntKind.i64.wrap n:=(rfl)
theorem ag4 (n:Int):qO 18446744073709551615 n=IntKind.u64.wrap n:=(rfl)
theorem sM {n:Int} (h1: -9223372036854775808≤n) (h2:n≤9223372036854775807):IntKind.i64.wrap n=n:=by
 simp [IntKind.wrap,IntKind.min,IntKind.max,IntKind.signed,IntKind.bits];omega
theorem tj {n:Int} (h1:0≤n) (h2:n≤18446744073709551615):IntKind.u64.wrap n=n:=by
 simp [IntKind.wrap,IntKind.min,IntKind.max,IntKind.signed,IntKind.bits];omega
theorem abW {m:Nat} {k:IntKind} (hk: ∀n,qO m n=k.wrap n) (hm: ∀n:Nat,n≤m→k.wrap n=n) (n:Int):aQ m n=k.wrap n:=by
 cases n with
 |ofNat a=>
  show bq (Nat.ble a m) (Int.ofNat a) (qO m (.ofNat a))=_;rw [cq]
  by_cases h:a≤m
  ·rw [bK h];exact (hm a h).symm
  ·rw [jk h,hk]
 |negSucc a=>exact hk _
theorem bp {n:Int} (h1: -9223372036854775808≤n) (h2:n≤9223372036854775807):aQ 9223372036854775807 n=n:=by
 rw [abW agN (fun a ha=>sM (by omega) (by omega)),sM h1 h2]
theorem gv {n:Int} (h1:0≤n) (h2:n≤18446744073709551615):aQ 18446744073709551615 n=n:=by
 rw [abW ag4 (fun a ha=>tj (by omega) (by omega)),tj h1 h2]
theorem ja (t:Tms) (h:AH):dr (some (.st t h))=some (.nrm,⟨t,h⟩):=(rfl)
theorem vr (x:AV):aW x h κ=κ x h:=(rfl)
theorem abE (c:Bool) (a b:AV):fw (.bool c) a b h κ=κ (bq c a b) h:=(rfl)
theorem dK (y:Nat) (x:AV):fQ y x h κ=bq x.nb (κ (.pto h.length 0) (h++[some (.cells x.cells y)])) none:=by
 unfold fQ cU;rw [ah,aV]
theorem eB (b:Blk):cU h b κ=κ (.pto h.length 0) (h++[some b]):=by unfold cU;rw [ah,aV]
theorem cmp_eq (g:Int→Int→Bool) (k:Nat) (a b:Int):cmp g (.int k a) (.int k b) h κ=κ (.bool (g a b)) h:=by
 show bq (Nat.beq k k) _ _=_;rw [Bs];rfl
theorem dS (g:Int→Int→Int) (k:Nat) (a b:Int):arith g (.int k a) (.int k b) h κ=κ (.int k (aQ k (g a b))) h:=by
 show bq (Nat.beq k k) _ _=_;rw [Bs];rfl
theorem aqI (k:Nat) (a b:Int):arR (.int k a) (.int k b) h κ=bq (decide (b≠0)) (κ (.int k (awj a b)) h) none:=by
 show bq (and (Nat.beq k k) (not (cD b (.ofNat 0)))) _ _=_;rw [Bs,va];simp
theorem afA (b:Bool):oE (.bool b) h κ=κ (.bool (not b)) h:=(rfl)
theorem tR (n b o:Nat):aj n (.pto b o) h κ=κ (.pto b (o+n)) h:=(rfl)
theorem aev (n:Nat) (cs:List AV) (o:Nat):aj n (.ptp cs o) h κ=κ (.ptp cs (o+n)) h:=(rfl)
theorem vT (cs:List AV) (y:Nat) (f:List AV→Nat→Option Rs) (g:Nat→List (List AV)→Nat→Option Rs):wE (.cells cs y) f g=f cs y:=(rfl)
theorem lE (b o:Nat):ao (.pto b o) h κ=au (ab h b) fun B=>wE B (fun cs _=>au cs[o]? fun v=>κ v h) (fun z ll _=>ahf κ h o z ll):=by
 show eP h b (fun cs _=>tB κ h o cs) _=_;unfold eP tB pV;simp only [dg]
theorem zq (cs:List AV) (o:Nat):ao (.ptp cs o) h κ=au cs[o]? fun v=>κ v h:=by
 show au (mf cs o) _=_;rw [dg]
theorem jJ (n b o:Nat):aF n (.pto b o) h κ=au (ab h b) fun B=>wE B (fun cs _=>bq (decide (o+n≤cs.length)) (κ (.agg ((cs.drop o).take n)) h) none) (fun z ll _=>ajF n κ h o z ll):=by
 show eP h b (fun cs _=>oA n κ h o cs) _=_;unfold eP oA iP;simp only [aS,bt,cq,ah,Nat.add_eq]
theorem yW (n:Nat) (cs:List AV) (o:Nat):aF n (.ptp cs o) h κ=bq (decide (o+n≤cs.length)) (κ (.agg ((cs.drop o).take n)) h) none:=by
 show oA n κ h o cs=_;unfold oA iP;simp only [aS,bt,cq,ah,Nat.add_eq]
theorem fM (b o:Nat) (v:AV):bQ (.pto b o) v h κ=bq v.plain (au (ab h b) fun B=>wE B (fun cs y=>au cs[o]? fun _=>κ (.tup []) (h.set b (some (.cells (cs.set o v) y)))) (st1R v κ h b o)) none:=by
 show bq v.plain (eP h b (aqw v κ h b o) _) none=_;unfold eP;simp only [show aqw v κ h b o=fun cs y=>au (mf cs o) fun _=>κ (.tup []) (bH (some (.cells (bH v cs o) y)) h b) from rfl];simp only [dg,cK]
theorem qy (n b o:Nat) (vs:List AV):ay n (.pto b o) (.agg vs) h κ=bq (and (decide (vs.length=n)) (aO vs)) (au (ab h b) fun B=>wE B (fun cs y=>bq (decide (o+vs.length≤cs.length)) (κ (.tup []) (h.set b (some (.cells (cs.take o++(vs++cs.drop (o+vs.length))) y)))) none) (stGR n vs κ h b o)) none:=by
 show awu n κ h vs b o=_;unfold awu eP;simp only [show avo vs κ h b o=fun cs y=>bq (Nat.ble (Nat.add o (ag vs)) (ag cs)) (κ (.tup []) (bH (some (.cells (av (cE o cs) (av vs (cL (Nat.add o (ag vs)) cs))) y)) h b)) none from rfl];simp only [ah,lJ,cq,cK,aV,aS,bt,Nat.add_eq]
theorem aiz:bG .aa h κ=κ (.int 9223372036854775807 0) h:=(rfl)
theorem ams:bG .sle h κ=κ (.int 9223372036854775807 0) h:=(rfl)
theorem avx (cs:List AV) (n:Nat):bG (.slp cs n) h κ=κ (.int 9223372036854775807 n) h:=(rfl)
theorem avT (b o l c z:Nat) (e:Bool):bG (.slo b o l c z e) h κ=κ (.int 9223372036854775807 l) h:=(rfl)
theorem aqk (l:List Nat):ap7 (.str l) h κ=κ (.int 9223372036854775807 l.length) h:=by
 show κ (.int _ (.ofNat (ag l))) h=_;rw [ah];rfl
theorem yz (sz:Nat) (cs:List AV) (len k i:Nat):bM sz (.slp cs len) (.int k (i:Int)) h κ=bq (decide (i<len)) (κ (.ptp cs (i*sz)) h) none:=by
 show bq (Nat.blt i len) _ _=_;rw [wG];rfl
theorem arS (k:Nat) (a b:Int):arE (.int k a) (.int k b) h κ=bq (decide (b≠0)) (κ (.int k (aQ k (avg a b))) h) none:=by
 show bq (and (Nat.beq k k) (not (cD b (.ofNat 0)))) _ _=_;rw [Bs,va];simp
theorem asz (k:Nat) (n:Int):asH (.int k n) h κ=κ (.int k (aQ k (jC (.ofNat 0) n))) h:=(rfl)
theorem vW (m k:Nat) (n:Int):cvI m (.int k n) h κ=κ (.int m (aQ m n)) h:=(rfl)
theorem vn (sz b o l c:Nat) (e:Bool) (k i:Nat):bM sz (.slo b o l c sz e) (.int k (i:Int)) h κ=bq (decide (i<l)) (κ (.pto b (o+i*sz)) h) none:=by
 show bq (Nat.blt i l) (bq (Nat.beq sz sz) _ _) _=_;rw [wG,Bs];rfl
theorem asp (l:List Nat) (k i:Nat):aqx (.str l) (.int k (i:Int)) h κ=au l[i]? fun b=>κ (.int 255 b) h:=by
 show au (dQ l i) _=_;rw [bI];rfl
theorem rR (n sz b o k i:Nat):kn n sz (.pto b o) (.int k (i:Int)) h κ=bq (decide (i<n)) (κ (.pto b (o+i*sz)) h) none:=by
 show bq (Nat.blt i n) _ _=_;rw [wG];rfl
theorem amq (n sz:Nat) (cs:List AV) (k i:Nat):aeV n sz (.agg cs) (.int k (i:Int)) h κ=bq (decide (i<n)) (au cs[i*sz]? fun v=>κ v h) none:=by
 show bq (Nat.blt i n) (au (mf cs (i*sz)) _) none=_;rw [wG,dg]
theorem ar7 (off:Nat) (cs:List AV):vP off (.agg cs) h κ=au cs[off]? fun v=>κ v h:=by
 show au (mf cs off) _=_;rw [dg]
theorem ar5 (off n:Nat) (cs:List AV):ur off n (.agg cs) h κ=bq (decide (off+n≤cs.length)) (κ (.agg ((cs.drop off).take n)) h) none:=by
 show oA n κ h off cs=_;unfold oA iP;simp only [aS,bt,cq,ah,Nat.add_eq]
theorem jH (i:Nat) (cs:List AV):fu i (.tup cs) h κ=au cs[i]? fun v=>κ v h:=by
 show au (mf cs i) _=_;rw [dg]
theorem aqp (b o:Nat):aM (.pto b o) h κ=κ (.pto b o) h:=(rfl)
theorem asQ (cs:List AV) (o:Nat):aM (.ptp cs o) h κ=κ (.ptp cs o) h:=(rfl)
theorem aiV (a b:List Nat):zG (.str a) (.str b) h κ=bq (decide (a.length+b.length≤9223372036854775807)) (κ (.str (a++b)) h) none:=by
 show bq (Nat.ble (Nat.add (ag a) (ag b)) _) (κ (.str (av a b)) h) none=_;rw [cq,ah,ah,aV];rfl
theorem wZ (g:List Nat→List Nat→Bool) (a b:List Nat):jl g (.str a) (.str b) h κ=κ (.bool (g a b)) h:=(rfl)
theorem lC (v:AV) (h':AH):aP κ (some (v,h'))=κ v h':=(rfl)
theorem adY:aP κ none=none:=(rfl)
theorem ads:aO []=true:=(rfl)
theorem aaS (v:AV) (r:List AV):aO (v::r)=and v.plain (aO r):=(rfl)
theorem ah4 (k:Nat) (n:Int):(AV.int k n).plain=true:=(rfl)
theorem adQ (b:Bool):(AV.bool b).plain=true:=(rfl)
theorem ajf (l:List Nat):(AV.str l).plain=true:=(rfl)
theorem adF:AV.aa.plain=true:=(rfl)
theorem aje:AV.nil.plain=true:=(rfl)
theorem ahA:AV.sle.plain=true:=(rfl)
theorem aiA (cs:List AV) (n:Nat):(AV.slp cs n).plain=true:=(rfl)
theorem ah5 (b o l c z:Nat) (e:Bool):(AV.slo b o l c z e).plain=true:=(rfl)
theorem ai3 (b o:Nat):(AV.pto b o).plain=true:=(rfl)
theorem aid (cs:List AV) (o:Nat):(AV.ptp cs o).plain=true:=(rfl)
theorem alu (cs:List AV):(AV.agg cs).nb=true:=(rfl)
theorem avN (k:Nat) (n:Int):(AV.int k n).nb=true:=(rfl)
theorem arB (b:Bool):(AV.bool b).nb=true:=(rfl)
theorem avb (l:List Nat):(AV.str l).nb=true:=(rfl)
theorem avd (cs:List AV) (n:Nat):(AV.slp cs n).nb=true:=(rfl)
theorem aru:AV.aa.nb=true:=(rfl)
theorem au3:AV.sle.nb=true:=(rfl)
theorem awz (b o l c z:Nat) (e:Bool):(AV.slo b o l c z e).nb=true:=(rfl)
theorem xO (cs:List AV):(AV.agg cs).cells=cs:=(rfl)
theorem aim (k:Nat) (n:Int):(AV.int k n).cells=[.int k n]:=(rfl)
theorem acF (b:Bool):(AV.bool b).cells=[.bool b]:=(rfl)
theorem ajG (l:List Nat):(AV.str l).cells=[.str l]:=(rfl)
theorem aD (h:AH) (x:Option Blk):ab (h++[x]) h.length=x:=by rw [bE];simp
theorem agU (x:Option Blk) (l:AH):ab (x::l) 0=x:=(rfl)
theorem aiN (x:Option Blk) (l:AH) (n:Nat):ab (x::l) (n+1)=ab l n:=(rfl)
theorem ak {h:AH} {n:Nat} (hn:n<h.length) (l:AH):ab (h++l) n=ab h n:=by rw [bE,bE,Bj hn]
theorem aq {h:AH} {n:Nat} (hn:n<h.length) (v:Option Blk):ab (h.set n v) n=v:=by rw [bE];simp [hn]
theorem ae {h:AH} {n m:Nat} (hn:n≠m) (v:Option Blk):ab (h.set n v) m=ab h m:=by rw [bE,bE,List.getElem?_set_ne hn]
theorem ae5 (h:AH) (x v:Option Blk):(h++[x]).set h.length v=h++[v]:=by
 rw [Dc _ _ (A9 _)];simp
theorem aJ {h:AH} {n:Nat} {b:Blk} (e:ab h n=some b):n<h.length:=cJ (by rw [e];simp)
theorem avf (k:Nat) (cs:List AV):(AV.agg cs).lt k=ltL k cs:=(rfl)
theorem avK (k:Nat) (cs:List AV):(AV.tup cs).lt k=ltL k cs:=(rfl)
theorem adJ (k m:Nat) (n:Int):(AV.int m n).lt k=true:=(rfl)
theorem aqC (k:Nat) (b:Bool):(AV.bool b).lt k=true:=(rfl)
theorem avX (k:Nat) (l:List Nat):(AV.str l).lt k=true:=(rfl)
theorem asE (k:Nat):AV.aa.lt k=true:=(rfl)
theorem avH (k:Nat):AV.sle.lt k=true:=(rfl)
theorem awc (k:Nat):AV.nil.lt k=true:=(rfl)
theorem alK (k:Nat) (cs:List AV) (n:Nat):(AV.slp cs n).lt k=true:=(rfl)
theorem awo (k:Nat) (cs:List AV) (n:Nat):(AV.ptp cs n).lt k=true:=(rfl)
theorem fE (k b o:Nat):(AV.pto b o).lt k=decide (b<k):=wG b k
theorem uP (k b o l c z:Nat) (e:Bool):(AV.slo b o l c z e).lt k=decide (b<k):=wG b k
theorem ac4 {f:Nat} {args:List AV} {v:AV} (hx:C.ext f=none) (hp:ltL 0 args=true) (hm:C.rD f args=some v) (ho:C.own f=false:=by kernel_rfl):aH C run f args h=some (v,h):=by
 unfold aH;rw [hx,ho,hp,hm];rfl
theorem aeo {f:Nat} {args:List AV} {r:AV} {h1:AH} (hx:C.ext f=none) (hp:ltL 0 args=true) (hm:C.rD f args=none) (hr:run f args []=some (r,h1)) (hl:r.lt 0=true) (ho:C.own f=false:=by kernel_rfl):aH C run f args h=some (r,h):=by
 unfold aH;rw [hx,ho,hp,hm,hr];show bq true (au (some (r,h1)) (jF C f h)) _=_;rw [aA,aT];unfold jF;rw [hl];rfl
theorem rh {f:Nat} {args:List AV} {g:List AV→AH→Option (AV×AH)} (hx:C.ext f=some g):aH C run f args h=g args h:=by
 unfold aH;rw [hx]
theorem avj (n:Nat):(rl C (n+1)).run=dk C (rl C n).run (rl C n).lp:=(rfl)
theorem axq (n:Nat) (b:K) (s:St):(rl C (n+1)).lp b s=au (kx C (rl C n).run (rl C n).lp b s) (vf ((rl C n).lp b)):=(rfl)
end
section
open Go.RowKit
section
variable {H:Type} {enc:TypeId×Value→H}
theorem yB {a:Assume} {C:Checked} {os:Os} {f:FuncId} {fn:Func} {s:ChangeSpec} {conds:List PathCond} {apart fresh handsOn again:Bool} {X:World→Array Value→Prop}
 (hX: ∀(w w':World) (args:Array Value),w.heap=w'.heap→X w args→X w' args)
 (own:ownKnob C.prog.godebug=none) (started:os.Started) (noInit:C.prog.inits.idxOf? f=none) (hfn:C.prog.funcs[f]? =some fn)
 (witness: ∃(w:World) (tape:Tape) (i:Input),w.os=os∧(w.forCall tape i).Shaped C.prog∧i.vars=[]∧Input.okWide C.prog (w.forCall tape i) .any w.heap.size f i∧
  ((s.pre enc C.prog fn conds apart (w.forCall tape i).memory i.args∧X (w.forCall tape i).memory i.args)∧sizedMet enc C.prog fn (OpenSpec.ofChange s) apart (w.forCall tape i).memory i.args)∧a.holds C.prog (lone (Frame.enter C.prog f i.args .normal) [] (w.forCall tape i)))
 (contract: ∀(W:World) (base:Nat) (args:Array Value) (ds gs:List (DataW H)) (before:List MemPlace),
  (∀(j:Nat) t v,fn.params[j]? =some t→args[j]? =some v→Value.okWide C.prog W .any base t v)→
  DataW.Whole enc C.prog fn.params.toList s.vars apart W args.toList ds gs before→
  X W args→W.ShapedOpen C.prog→
  Calls C.prog f args W fun e W'=>∃v,e= .returned v∧s.post enc C.prog fn apart fresh handsOn again W args v W'):
 ReturnsInHanded a C os f .any (fun w args=>(s.pre enc C.prog fn conds apart w args∧X w args)∧sizedMet enc C.prog fn (OpenSpec.ofChange s) apart w args) (s.post enc C.prog fn apart fresh handsOn again):=by
 refine returnsInHanded_of_calls own started noInit witness ?_;intro w tape i _ hsh _ hok hpre hholds;obtain ⟨_,_,_,fn',hfn',_,_,_,_,hval⟩:=hok;have e:fn'=fn:=Cb (hfn'.symm.trans hfn);subst e;obtain ⟨⟨⟨ds,gs,before,hw,hc⟩,hx⟩,hz⟩:=hpre;have hw':=DataW.Whole.of_heap (w':=w.forCall tape i) (by rfl) hw;refine (contract (w.forCall tape i) w.heap.size i.args ds gs before hval hw' (hX _ _ _ (by rfl) hx) hsh).mono fun e W' ⟨v,he,hp⟩=>?_
 subst he;exact ChangeSpec.post_blind hp
end
def TyV (P:Program) (n:Nat) (t:TypeId) (a:AV):Prop:=match P.underlying t with
 |some (.struct _)|some (.array _ _)=>∃as,a= .agg as∧TyC P n t as
 |_=>TyC P n t [a]
theorem ava {H:Type} {enc:TypeId×Value→H} {P:Program} (hl:laidOutB P=true) {ts:List TypeId} (hc:tI P ts=true) {W:World} {base:Nat} {spare:Nat→Bool} {b:Nat} {t:TypeId} {v:Value} {d:DataW H} {p:List MemPlace}
 (ht:t∈ts) (hok:Value.okWide P W .any base t v) (h:DataW.Trod enc P W b spare true t v d p) (hp: ∀x∈p,x.block<W.heap.size): ∃n a,V (· <W.heap.size) W a ρ0 v∧TyV P n t a:=by
 obtain ⟨n,hn⟩:=h;obtain ⟨as,h1,h2⟩:=ard hl hc n t _ _ ht hn hp;have hr:=uu hc ht;unfold pU at hr;rw [Ba] at hr;have scal: ∀v:Value,v.cells= #[v]→VL (· <W.heap.size) W as ρ0 v.cells.toList→ ∃a,as=[a]∧V (· <W.heap.size) W a ρ0 v:=by
  intro v hv h;rw [hv] at h
  match as,h with
  |[],h=>simp [VL] at h
  |a::r,h=>
   simp only [VL,List.cons.injEq] at h;obtain ⟨u,r',⟨rfl,rfl⟩,g1,g2⟩:=h
   match r,g2 with
   |[],_=>exact ⟨a,rfl,g1⟩
   |_::_,g=>simp [VL] at g
 unfold TyV
 cases hu:P.underlying t with
 |none=>rw [hu] at hr;cases hr.2
 |some D=>
  rw [hu] at hr
  cases D with
  |bool=>
   obtain ⟨x,rfl⟩:=Go.WideShapes.okWide_bool hu hok;obtain ⟨a,rfl,g⟩:=scal _ rfl h1;exact ⟨n,a,g,h2⟩
  |int k=>
   obtain ⟨x,rfl⟩:=Go.WideShapes.okWide_int hu hok;obtain ⟨a,rfl,g⟩:=scal _ rfl h1;exact ⟨n,a,g,h2⟩
  |string=>
   obtain ⟨x,rfl⟩:=Go.WideShapes.okWide_string hu hok;obtain ⟨a,rfl,g⟩:=scal _ rfl h1;exact ⟨n,a,g,h2⟩
  |slice e=>
   obtain ⟨x,l,c,rfl⟩:=Go.WideShapes.okWide_slice hu hok;obtain ⟨a,rfl,g⟩:=scal _ rfl h1;exact ⟨n,a,g,h2⟩
  |struct fs=>
   obtain ⟨cs,rfl,_⟩:=Go.WideShapes.okWide_struct hu hok;exact ⟨n,.agg as,by simp only [V];exact ⟨cs,rfl,h1⟩,as,rfl,h2⟩
  |array m e=>
   have: ∃cs,v= .agg cs:=by
    unfold Value.okWide at hok;rw [hu] at hok;obtain ⟨cs,h,_⟩:=hok;exact ⟨cs,h⟩
   obtain ⟨cs,rfl⟩:=this;exact ⟨n,.agg as,by simp only [V];exact ⟨cs,rfl,h1⟩,as,rfl,h2⟩
  |_=>cases hr.2
section
variable {P:Program} {n:Nat} {t:TypeId} {as:List AV}
theorem TyC.avZ {k:IntKind} (hu:P.underlying t=some (.int k)) (h:TyC P n t as): ∃x,as=[.int (cT k) x]∧(Lit.int k x).wf=true:=by
 cases n with
 |zero=>exact h.elim
 |succ n=>have:=h.2;rw [hu] at this;exact this
theorem TyC.adu {e:TypeId} (hu:P.underlying t=some (.slice e)) (h:TyC P n t as):as=[.aa]∨as=[.sle]∨ ∃m cs len,as=[.slp cs len]∧0<len∧len≤maxLen∧TyL (TyC P m) (List.replicate len e) cs:=by
 cases n with
 |zero=>exact h.elim
 |succ n=>
  have:=h.2
  rw [hu] at this;rcases this with h|h|⟨cs,len,h1,h2,h3,h4⟩
  ·exact .inl h
  ·exact .inr (.inl h)
  ·exact .inr (.inr ⟨n,cs,len,h1,h2,h3,h4⟩)
theorem TyC.one (hu:P.cellsOf t=1) (h:TyC P n t as): ∃c,as=[c]:=by
 have:=h.len
 rw [hu] at this
 match as,this with
 |[c],_=>exact ⟨c,rfl⟩
theorem aeR (k:Nat): ∀(a b:List AV),ltL k (a++b)=and (ltL k a) (ltL k b)
 |[],b=>by simp [yC]
 |x::a,b=>by rw [Ca,kA,kA,aeR k a b,Bool.and_assoc]
theorem TyL.lt {T:TypeId→List AV→Prop} (hT: ∀t as,T t as→ltL 0 as=true): ∀{ts:List TypeId} {as:List AV},TyL T ts as→ltL 0 as=true
 |[],as,h=>by rw [show as=[] from h];rfl
 |t::ts,as,h=>by
  obtain ⟨a,r,rfl,h1,h2⟩:=h;rw [aeR,hT t a h1,TyL.lt hT h2];rfl
theorem TyC.lt: ∀{n:Nat} {t:TypeId} {as:List AV},TyC P n t as→ltL 0 as=true
 |0,_,_,h=>h.elim
 |n+1,t,as,h=>by
  have h:=h.2
  split at h
  ·obtain ⟨b,rfl⟩:=h;rfl
  ·obtain ⟨b,rfl,_⟩:=h;rfl
  ·obtain ⟨b,rfl,_⟩:=h;rfl
  ·exact TyL.lt (fun _ _ h=>TyC.lt h) h
  ·exact TyL.lt (fun _ _ h=>TyC.lt h) h
  ·rcases h with rfl|rfl|⟨cs,len,rfl,_⟩<;>rfl
  ·exact h.elim
theorem TyV.agg {fs:Array Field} {a:AV} (hu:P.underlying t=some (.struct fs)) (h:TyV P n t a): ∃as,a= .agg as∧TyC P n t as:=by
 unfold TyV at h;rw [hu] at h;exact h
theorem TyV.avZ {k:IntKind} {a:AV} (hu:P.underlying t=some (.int k)) (h:TyV P n t a): ∃x,a= .int (cT k) x∧(Lit.int k x).wf=true:=by
 unfold TyV at h;rw [hu] at h
 obtain ⟨x,h1,h2⟩:=TyC.avZ hu h
 cases h1
 exact ⟨x,rfl,h2⟩
theorem TyV.adu {e:TypeId} {a:AV} (hu:P.underlying t=some (.slice e)) (h:TyV P n t a):a= .aa∨a= .sle∨ ∃m cs len,a= .slp cs len∧0<len∧len≤maxLen∧TyL (TyC P m) (List.replicate len e) cs:=by
 unfold TyV at h;rw [hu] at h
 rcases TyC.adu hu h with h|h|⟨m,cs,len,h1,h2⟩
 ·cases h;exact .inl rfl
 ·cases h;exact .inr (.inl rfl)
 ·cases h1;exact .inr (.inr ⟨m,cs,len,rfl,h2⟩)
end
theorem zx {P:Program} {C:Cx} {F:Nat} {as:List AV} {h':AH} (R:ga P C F as [] (.bool true) h') {W:World} {args:Array Value} (I:Inv C (· <W.heap.size) W ρ0 []) (hv:VL (· <W.heap.size) W as ρ0 args.toList):
 Calls P F args W fun e w'=>e= .returned (.bool true)∧Below W.heap.size W w':=by
 have:=R.2 _ W ρ0 args.toList I hv
 rw [Array.toArray_toList] at this;refine this.mono fun e w' ⟨u,ok',ρ',he,E,_,hV⟩=>?_
 simp only [V] at hV;subst hV;exact ⟨he,E.os,E.tape,E.output,E.size,fun k hk=>E.keep k hk fun n hn=>absurd (by simp [bE]) hn⟩
theorem ah0 {P:Program} {W:World} {g t:Nat} {cs:Array Value} {fuel n e:Nat} {k:IntKind} {zs:List Int} {p:List MemPlace} {nm:String} (hg:P.globalNamed nm=some g) (hv:W.var? P nm=some cs)
 (hu:P.underlying t=some (.array n e)) (he:P.underlying e=some (.int k)) (c1:P.cellsOf e=1) (hz:zs.length=n) {d:DataW Unit} (ed:d= .agg (zs.map fun n=>.lit (.int k n)))
 (hd:DataW.trod (fun _=>()) P W 0 (fun _=>true) false fuel t cs.toList=some (d,p)): ∀r (h:r<zs.length),W.cell? ⟨g,r,none⟩=some (.int k zs[r]):=by
 intro r hr;subst ed;obtain ⟨xs,m,_,ex,_,hl,hel⟩:=DataW.trod_array hu hd;have hE:=hel r (by omega);rw [c1,BW,Bd (by omega)] at hE;obtain ⟨z,e1,e2,_⟩:=DataW.trod_int he hE;have e3:(xs.map (·.1))=zs.map fun n=>.lit (.int k n):=(DataW.agg.inj (Prod.mk.inj ex).1).symm
 have e4:(xs.map (·.1))[r]? =(zs.map fun n=>(DataW.lit (.int k n):DataW Unit))[r]? :=by rw [e3]
 rw [Bn,Bn,Bd (by omega:r<xs.length),Bd hr,e2] at e4;have hz:z=zs[r]:=by simpa using e4
 rw [World.var?_cell hg hv r,←hz]
 have:cs.toList[r]? =some (.int k z):=by
  have h0:((cs.toList.drop r).take 1)[0]? =some (.int k z):=by rw [e1];rfl
  simpa using h0
 simpa using this
theorem afT {ok:Nat→Prop} {w:World} {ρ:Rho} {g:Nat} {k:IntKind}: ∀{zs:List Int} {p:Nat},(∀r (h:r<zs.length),w.cell? ⟨g,p+r,none⟩=some (.int k zs[r]))→VAt ok w (zs.map fun n=>.int (cT k) n) ρ g p
 |[],_,_=>by simp only [List.map_nil,VAt]
 |z::zs,p,h=>by
  simp only [BS,VAt];refine ⟨⟨.int k z,h 0 (by simp),by simp only [V];exact ⟨k,rfl,rfl⟩⟩,afT fun r hr=>?_⟩
  have:=h (r+1) (by simpa using hr)
  rw [show p+1+r=p+(r+1) by omega]
  simpa using this
end
section
variable {C:Cx} {run:Run} {lp:Lp} {s:St} {h:AH} {κ:Ka}
theorem bqT {α:Type} (a b:α):bq true a b=a:=(rfl)
theorem bqF {α:Type} (a b:α):bq false a b=b:=(rfl)
theorem avJ {α β:Type} (f:α→Option β):au none f=none:=(rfl)
theorem sj {α β:Type} (a:α) (f:α→Option β):au (some a) f=f a:=(rfl)
theorem dO {m a:Nat} (h:a≤m):aQ m (a:Int)=(a:Int):=by
 show bq (Nat.ble a m) (Int.ofNat a) _=_;rw [cq,bK h];rfl
theorem qg {t a:Nat} (h:a≤t):toU t (a:Int)=a:=by
 show bq (Nat.ble a t) a (Nat.land a t)=a;rw [cq,bK h]
theorem aq5 {t:Nat} {a:Int} (h0:0≤a) (h:a≤t):toU t a=a.toNat:=by
 obtain ⟨n,rfl⟩: ∃n:Nat,a=n:=⟨a.toNat,by omega⟩;exact qg (by omega)
theorem yY (m t:Nat) (g:Nat→Nat→Nat) (a b:Int):pS m t g (.int m a) (.int m b) h κ=κ (.int m (aQ m ((g (toU t a) (toU t b):Nat):Int))) h:=by
 show bq (Nat.beq m m) (bq (Nat.beq m m) _ none) none=_;rw [Bs];rfl
theorem asL {m w k:Nat} (a:Nat) {s:Int} (h0:0≤s) (hs:s≤w):tx m w (.int m (a:Int)) (.int k s) h κ=κ (.int m ((a/2^s.toNat:Nat):Int)) h:=by
 obtain ⟨n,rfl⟩: ∃n:Nat,s=n:=⟨s.toNat,by omega⟩;show bq (Nat.beq m m) (κ (.int m (.ofNat (a/2^(oF n w)))) h) none=_;rw [Bs,aA];unfold oF;rw [cq,bK (by omega)];rfl
theorem arb {m w k:Nat} (a:Int) {s:Int} (h0:0≤s) (hs:s≤w):ahq m w (.int m a) (.int k s) h κ=κ (.int m (aQ m (a*((2^s.toNat:Nat):Int)))) h:=by
 obtain ⟨n,rfl⟩: ∃n:Nat,s=n:=⟨s.toNat,by omega⟩;show bq (Nat.beq m m) (κ (.int m (aQ m (mL a (.ofNat (2^(oF n w)))))) h) none=_;rw [Bs,aA,afz];unfold oF;rw [cq,bK (by omega)];rfl
theorem min_eq (k:Nat) (a b:Int):kh false (.int k a) (.int k b) h κ=κ (.int k (min a b)) h:=by
 show bq (Nat.beq k k) (κ (.int k (bq (vR b a) b a)) h) none=_;rw [Bs,aA,xI]
 by_cases e:b<a
 ·rw [bK e];congr 2;omega
 ·rw [jk e];congr 2;omega
theorem max_eq (k:Nat) (a b:Int):kh true (.int k a) (.int k b) h κ=κ (.int k (max a b)) h:=by
 show bq (Nat.beq k k) (κ (.int k (bq (vR a b) b a)) h) none=_;rw [Bs,aA,xI]
 by_cases e:a<b
 ·rw [bK e];congr 2;omega
 ·rw [jk e];congr 2;omega
theorem aaF (b w:Bool) (f:Ka→Option Rs):aC (.bool b) w f h κ=bq (oC b w) (f κ) (κ (.tup []) h):=(rfl)
theorem abv (w:Bool) (f:Ka→Option Rs):aC (.tup []) w f h κ=κ (.tup []) h:=by cases w<;>rfl
theorem af3:oC true true=true:=(rfl)
theorem afU:oC true false=false:=(rfl)
theorem af6:oC false true=false:=(rfl)
theorem afV:oC false false=true:=(rfl)
theorem ahL (k:Nat) (a b:Int):fA 1 2 [.int k 0] [(0,.int k a),(1,.int k b)] h κ=κ (.slo h.length 0 2 2 1 true) (h++[some (.cells [.int k a,.int k b] 0)]):=by
 have e:fA 1 2 [.int k 0] [(0,.int k a),(1,.int k b)] h κ=κ (.slo (ag h) 0 2 2 1 true) (av h [some (.cells [.int k a,.int k b] 0)]):=by kernel_rfl
 rw [e,ah,aV]
theorem nM: ∀l:List Nat,eqS l l=true
 |[]=>rfl
 |a::r=>by show bq (Nat.beq a a) (eqS r r) false=true;rw [Bs,aA,nM r]
theorem gG (v:AV):AV.same v v=true:=by
 refine AV.rec (motive_1:=fun v=>AV.same v v=true) (motive_2:=fun l=>AV.same (.agg l) (.agg l)=true) ?_ ?_ ?_ ?_ ?_ ?_ ?_ ?_ ?_ ?_ ?_ ?_ ?_ ?_ ?_ ?_ ?_ ?_ ?_ ?_ ?_ v
 ·rfl
 ·intro b;cases b<;>rfl
 ·intro k n;show and (Nat.beq k k) (cD n n)=true;rw [Bs,va];simp
 ·intro l;exact nM l
 ·rfl
 ·intro b o;show and (Nat.beq b b) (Nat.beq o o)=true;rw [Bs,Bs];rfl
 ·intro c o ih;show and (Nat.beq o o) (AV.same (.agg c) (.agg c))=true;rw [Bs,ih];rfl
 ·rfl
 ·intro b o l c z e;show and (and (and (Nat.beq b b) (Nat.beq o o)) (and (Nat.beq l l) (Nat.beq c c))) (and (Nat.beq z z) (oC e e))=true;simp only [Bs];cases e<;>rfl
 ·intro c n ih;show and (Nat.beq n n) (AV.same (.agg c) (.agg c))=true;rw [Bs,ih];rfl
 ·rfl
 ·rfl
 ·intro b;exact Bs b
 ·intro a c ia ic;show and (AV.same (.agg a) (.agg a)) (AV.same (.agg c) (.agg c))=true;rw [ia,ic];rfl
 ·rfl
 ·intro f a c ia ic;show and (Nat.beq f f) (and (AV.same (.agg a) (.agg a)) (AV.same (.agg c) (.agg c)))=true;rw [Bs,ia,ic];rfl
 ·rfl
 ·intro c ih;exact ih
 ·intro c ih;exact ih
 ·rfl
 ·intro a r ia ir;show and (AV.same a a) (AV.same (.agg r) (.agg r))=true;rw [ia,ir];rfl
theorem tu: ∀l:List (List AV),mN l l=true
 |[]=>rfl
 |x::a=>by show and (AV.same (.agg x) (.agg x)) (mN a a)=true;rw [gG,tu a];rfl
theorem zm (b:Blk):qc b b=true:=by
 cases b with
 |cells x y=>show and (Nat.beq y y) (AV.same (.agg x) (.agg x))=true;rw [Bs,gG];rfl
 |map x y=>show and (AV.same (.agg x) (.agg x)) (AV.same (.agg y) (.agg y))=true;rw [gG,gG];rfl
 |rows z x y=>show and (and (Nat.beq z z) (Nat.beq y y)) (mN x x)=true;rw [Bs,Bs,tu];rfl
theorem ly: ∀h:AH,gm h h=true
 |[]=>rfl
 |none::a=>ly a
 |some x::a=>by show and (qc x x) (gm a a)=true;rw [zm,ly a];rfl
theorem eM (h:AH):aN (ag h) h=h:=by
 unfold aN;rw [ah,aS,Cc,aV,gL]
 simp
end
noncomputable section
def ckX (h:AH) (k:AV→Option Rs) (x:AV×AH):Option Rs:=bq (and (gm x.2 h) (AV.lt (ag h) x.1)) (k x.1) none
end
section
variable {C:Cx} {run:Run} {lp:Lp} {s:St} {h:AH} {κ:Ka}
theorem vO {α:Type} {f:α→Bool}: ∀{l:List α},gh f l=true↔ ∀a∈l,f a=true
 |[]=>by simp [gh]
 |a::r=>by
  show and (f a) (gh f r)=true↔_;rw [Ba,vO];simp
theorem asN (v:AV) (h:AH):vhO (kVH v h)=some (v,h):=(rfl)
theorem aon (k:AV→Option Rs) (v:AV):ckX h k (v,h)=bq (AV.lt (ag h) v) (k v) none:=by
 unfold ckX;rw [ly,CY]
theorem alx {f:Nat} {args:List AV} {r:AV} {h1:AH} (hx:C.ext f=none) (ho:C.own f=true) (ht:C.tr f=false) (hr:run f args h=some (r,h1)):aH C run f args h=some (r,h1):=by
 unfold aH;rw [hx,ho,hr];show aaR C f (ag h) (r,h1)=_;unfold aaR;rw [ht];rfl
end
noncomputable section
end
section
variable {C:Cx} {run:Run} {kr:Kr} {q c id it:Nat} {ent:List OK} {fl1:List (Nat×Nat)} {t:Tms} {h:AH}
theorem pg: ∀t:Tm,ji t t=true
 | .nl=>rfl
 | .lf k v=>by show and (Nat.beq k k) (AV.same v v)=true;rw [Bs,gG];rfl
 | .nd m a b=>by show and (Nat.beq m m) (and (ji a a) (ji b b))=true;rw [Bs,pg a,pg b];rfl
end
theorem cZ {place:Nat→Option (Nat×Nat)} {z cs:List AV} {ps:List (Nat×AV)} {h:AH} {κ:Ka} (e:aal place z ps=some cs):dX place z ps h κ=κ (.agg cs) h:=by
 unfold dX;rw [e];rfl
theorem bD {n y:Nat} {Z E:List AV} {h:AH} {κ:Ka} (hZ:Z.length=n) (hE:E.length=n) (hp:aO E=true):ay n (.pto h.length 0) (.agg E) (h++[some (.cells Z y)]) κ=κ (.tup []) (h++[some (.cells E y)]):=by
 rw [qy,hE,hp,decide_eq_true rfl];show bq true _ none=_;rw [aA,aD,aT,vT,BE,decide_eq_true (Nat.le_of_eq hZ.symm),aA,ae5,Cw (by omega)]
 simp
theorem uR: ∀(a b:List AV),aO (a++b)=and (aO a) (aO b)
 |[],b=>rfl
 |x::a,b=>by
  show and x.plain (aO (a++b))=and (and x.plain (aO a)) (aO b);rw [uR a b,Bool.and_assoc]
theorem TyL.aO {T:TypeId→List AV→Prop} (hT: ∀t as,T t as→aO as=true): ∀{ts:List TypeId} {as:List AV},TyL T ts as→Go.Proofs.YtemmgalfdmnkoaaGreatDoor.aO as=true
 |[],as,h=>by rw [show as=[] from h];rfl
 |t::ts,as,h=>by
  obtain ⟨a,r,rfl,h1,h2⟩:=h;rw [uR,hT t a h1,TyL.aO hT h2];rfl
theorem TyC.aO {P:Program}: ∀{n:Nat} {t:TypeId} {as:List AV},TyC P n t as→Go.Proofs.YtemmgalfdmnkoaaGreatDoor.aO as=true
 |0,_,_,h=>h.elim
 |n+1,t,as,h=>by
  have h2:=h.2
  split at h2
  ·obtain ⟨b,rfl⟩:=h2;rfl
  ·obtain ⟨x,rfl,_⟩:=h2;rfl
  ·obtain ⟨l,rfl,_⟩:=h2;rfl
  ·exact TyL.aO (fun t as h=>TyC.aO h) h2
  ·exact TyL.aO (fun t as h=>TyC.aO h) h2
  ·rcases h2 with rfl|rfl|⟨cs,len,rfl,_⟩<;>rfl
  ·exact h2.elim
noncomputable section
def ckN (k:AV→Option Rs) (x:AV×AH):Option Rs:=k x.1
def ckE (h:AH) (k:AV→AH→Option Rs) (x:AV×AH):Option Rs:=bq (Nat.ble (ag h) (ag x.2)) (k x.1 x.2) none
end
section
variable {C:Cx} {run:Run} {lp:Lp} {s:St} {h:AH} {κ:Ka}
theorem av0 (k:AV→Option Rs) (v:AV) (h':AH):ckN k (v,h')=k v:=(rfl)
theorem awy (k:AV→AH→Option Rs) (v:AV) (h':AH):ckE h k (v,h')=bq (decide (h.length≤h'.length)) (k v h') none:=by
 unfold ckE;rw [cq,ah,ah]
end
section
variable {C:Cx} {run:Run} {lp:Lp} {s:St} {h:AH} {κ:Ka}
def Fr (m:Nat) (h h':AH):Prop:=h.length≤h'.length∧ ∀i,i<m→ab h' i=ab h i
theorem Fr.refl (m:Nat) (h:AH):Fr m h h:=⟨A9 _,fun _ _=>rfl⟩
theorem Fr.trans {m:Nat} {a b c:AH} (x:Fr m a b) (y:Fr m b c):Fr m a c:=⟨Bo x.1 y.1,fun i hi=>(y.2 i hi).trans (x.2 i hi)⟩
theorem Fr.mono {m n:Nat} {a b:AH} (x:Fr m a b) (h:n≤m):Fr n a b:=⟨x.1,fun i hi=>x.2 i (by omega)⟩
theorem Fr.push {m:Nat} {h:AH} (hm:m≤h.length) (x:AH):Fr m h (h++x):=⟨by simp,fun i hi=>ak (by omega) x⟩
theorem Fr.set {m n:Nat} {h:AH} (hm:m≤n) (x:Option Blk):Fr m h (h.set n x):=⟨by simp,fun i hi=>by rw [bE,bE,List.getElem?_set_ne (by omega)]⟩
def cW (h:AH) (v:AV) (cs:List AV):Prop:=
 (cs=[]∧(v= .aa∨v= .sle))∨(∃row,v= .slp row cs.length∧row.take cs.length=cs)∨ ∃b o n row y e,v= .slo b o cs.length n 1 e∧ab h b=some (.cells row y)∧(row.drop o).take cs.length=cs∧o+cs.length≤row.length
theorem akR {α:Type} {row cs:List α} (h:row.take cs.length=cs):cs.length≤row.length:=by
 have:=congrArg List.length h
 rw [Bq] at this;omega
theorem cW.qB {v:AV} {cs:List AV} (r:cW h v cs):qB v=some cs.length:=by
 rcases r with ⟨rfl,rfl|rfl⟩|⟨row,rfl,_⟩|⟨b,o,n,row,y,e,rfl,_⟩<;>rfl
theorem cW.bG {v:AV} {cs:List AV} (r:cW h v cs) (h':AH) (κ:Ka):bG v h' κ=κ (.int 9223372036854775807 (cs.length:Int)) h':=by
 rcases r with ⟨rfl,rfl|rfl⟩|⟨row,rfl,_⟩|⟨b,o,n,row,y,e,rfl,_⟩<;>rfl
theorem cW.plain {v:AV} {cs:List AV} (r:cW h v cs):v.plain=true:=by
 rcases r with ⟨rfl,rfl|rfl⟩|⟨row,rfl,_⟩|⟨b,o,n,row,y,e,rfl,_⟩<;>rfl
theorem cW.nb {v:AV} {cs:List AV} (r:cW h v cs):v.nb=true:=by
 rcases r with ⟨rfl,rfl|rfl⟩|⟨row,rfl,_⟩|⟨b,o,n,row,y,e,rfl,_⟩<;>rfl
theorem cW.cells {v:AV} {cs:List AV} (r:cW h v cs):v.cells=[v]:=by
 rcases r with ⟨rfl,rfl|rfl⟩|⟨row,rfl,_⟩|⟨b,o,n,row,y,e,rfl,_⟩<;>rfl
theorem cW.lt {v:AV} {cs:List AV} (r:cW h v cs):v.lt (ag h)=true:=by
 rcases r with ⟨rfl,rfl|rfl⟩|⟨row,rfl,_⟩|⟨b,o,n,row,y,e,rfl,hb,_⟩
 ·rfl
 ·rfl
 ·rfl
 ·rw [uP,ah];exact decide_eq_true (cJ (by rw [hb];simp))
theorem cW.up {v:AV} {cs:List AV} {h':AH} (r:cW h v cs) (f:Fr h.length h h'):cW h' v cs:=by
 rcases r with r|r|⟨b,o,n,row,y,e,rfl,hb,hc,hd⟩
 ·exact .inl r
 ·exact .inr (.inl r)
 ·exact .inr (.inr ⟨b,o,n,row,y,e,rfl,by rw [f.2 b (cJ (by rw [hb];simp))];exact hb,hc,hd⟩)
theorem cW.elems {v:AV} {cs:List AV} (r:cW h v cs):eo h 1 cs.length v=some cs:=by
 rcases r with ⟨rfl,rfl|rfl⟩|⟨row,rfl,hr⟩|⟨b,o,n,row,y,e,rfl,hb,hr,hd⟩
 ·rfl
 ·rfl
 ·show bq (Nat.ble (Nat.mul cs.length 1) (ag row)) (some (cE (Nat.mul cs.length 1) row)) none=_
  have:=akR hr
  rw [cq,ah,aS,show Nat.mul cs.length 1=cs.length from BW _,bK this,hr]
 ·unfold eo
  simp only [hb];show bq (Nat.ble (Nat.add o (Nat.mul cs.length 1)) (ag row)) (some (cE (Nat.mul cs.length 1) (cL o row))) none=_;rw [cq,ah,aS,bt,show Nat.mul cs.length 1=cs.length from BW _,hr];exact bK hd _ _
theorem cW.idx {v:AV} {cs:List AV} (r:cW h v cs) {i:Nat} {c:AV} (hc:cs[i]? =some c):
 ∃p,AV.lt (ag h) p=true∧(∀(k:Nat) (κ:Ka),bM 1 v (.int k (i:Int)) h κ=κ p h)∧ ∀(κ:Ka),ao p h κ=κ c h:=by
 have hi:i<cs.length:=(Bc.1 hc).1;rcases r with ⟨rfl,_⟩|⟨row,rfl,hr⟩|⟨b,o,n,row,y,e,rfl,hb,hr,hd⟩
 ·simp at hi
 ·refine ⟨.ptp row i,rfl,fun k κ=>?_,fun κ=>?_⟩
  ·rw [yz,bK hi,BW]
  ·have:row[i]? =some c:=by
    rw [←hr,CW (by omega)] at hc;exact hc
   rw [zq,this];rfl
 ·refine ⟨.pto b (o+i),?_,fun k κ=>?_,fun κ=>?_⟩
  ·rw [fE,ah];exact decide_eq_true (cJ (by rw [hb];simp))
  ·rw [vn,bK hi,BW]
  ·have:row[o+i]? =some c:=by
    rw [←hr,CW (by omega),C4] at hc;exact hc
   rw [lE,hb];show au row[o+i]? _=_;rw [this];rfl
theorem ame (z:AV) (k:Nat) (a:Int) (h:AH) (κ:Ka):fA 1 1 [z] [(0,.int k a)] h κ=κ (.slo h.length 0 1 1 1 true) (h++[some (.cells [.int k a] 0)]):=by
 have e:fA 1 1 [z] [(0,.int k a)] h κ=κ (.slo (ag h) 0 1 1 1 true) (av h [some (.cells [.int k a] 0)]):=by kernel_rfl
 rw [e,ah,aV]
theorem aeU (k:Nat): ∀l:List AV,(upL k l).length=l.length
 |[]=>rfl
 |a::r=>by rw [hJ,Br,aeU k r,Br]
theorem abk (k:Nat): ∀(n:Nat) (l:List AV),upL k (l.drop n)=(upL k l).drop n
 |0,_=>rfl
 |n+1,[]=>rfl
 |n+1,a::r=>by rw [hJ,B5,B5,abk k n r]
theorem aaJ (k:Nat): ∀(n:Nat) (l:List AV),upL k (l.take n)=(upL k l).take n
 |0,_=>rfl
 |n+1,[]=>rfl
 |n+1,a::r=>by rw [BV,hJ,hJ,BV,aaJ k n r]
theorem cW.shift {h1:AH} {v:AV} {cs:List AV} (r:cW h1 v cs) (hu: ∀k,upL k cs=cs) (h:AH):cW (h++h1.map (wj h.length)) (v.up h.length) cs:=by
 rcases r with ⟨rfl,rfl|rfl⟩|⟨row,rfl,hr⟩|⟨b,o,n,row,y,e,rfl,hb,hr,hl⟩
 ·exact .inl ⟨rfl,.inl rfl⟩
 ·exact .inl ⟨rfl,.inr rfl⟩
 ·exact .inr (.inl ⟨row,rfl,hr⟩)
 ·refine .inr (.inr ⟨b+h.length,o,n,upL h.length row,y,e,rfl,?_,?_,?_⟩)
  ·rw [←aV,cN,if_neg (by omega),C5,←dA,abR,hb];rfl
  ·rw [←abk,←aaJ,hr,hu]
  ·rw [aeU];exact hl
theorem cW.pure {h1:AH} {v:AV} {cs:List AV} (r:cW h1 v cs) (hl:v.lt 0=true) (h:AH):cW h v cs:=by
 rcases r with r|r|⟨b,o,n,row,y,e,rfl,_⟩
 ·exact .inl r
 ·exact .inr (.inl r)
 ·rw [uP] at hl;simp at hl
theorem Fr.shift (h h1:AH):Fr h.length h (h++h1.map (wj h.length)):=Fr.push (A9 _) _
def iJ (m:Nat) (h:AH) (v:AV) (cs:List AV):Prop:=(cs=[]∧v= .aa)∨ ∃b y e,m≤b∧v= .slo b 0 cs.length cs.length 1 e∧ab h b=some (.cells cs y)
theorem iJ.at {m:Nat} {v:AV} {cs:List AV} (r:iJ m h v cs):cW h v cs:=by
 rcases r with ⟨rfl,rfl⟩|⟨b,y,e,_,rfl,hb⟩
 ·exact .inl ⟨rfl,.inl rfl⟩
 ·exact .inr (.inr ⟨b,0,_,cs,y,e,rfl,hb,by simp,by simp⟩)
theorem iJ.up {m:Nat} {h':AH} {v:AV} {cs:List AV} (r:iJ m h v cs) (f: ∀i,m≤i→i<h.length→ab h' i=ab h i):iJ m h' v cs:=by
 rcases r with r|⟨b,y,e,hm,rfl,hb⟩
 ·exact .inl r
 ·exact .inr ⟨b,y,e,hm,rfl,by rw [f b hm (aJ hb)];exact hb⟩
end
noncomputable section
abbrev Kt:=St→Option Rs
def kcN (κn:Kt) (κx:Ex→Kt) (s:St) (e:Ex):Option Rs:=Ex.rec (motive:=fun _=>Option Rs) (κn s) (fun i=>κx (.exit i) s) (κx .ret s) e
def kcR (κn:Kt) (κx:Ex→Kt) (x:Option (Ex×St)):Option Rs:=au x fun r=>kcN κn κx r.2 r.1
def bJ (v:AV) (a b:Option Rs):Option Rs:=nL v fun c=>bq c a b
def kcO (id:Nat) (κn:Kt) (κx:Ex→Kt) (e:Ex) (s:St):Option Rs:=Ex.rec (motive:=fun _=>Option Rs) (κn s) (fun i=>bq (Nat.beq i id) (κn s) (κx (.exit i) s)) (κx .ret s) e
def kc (C:Cx) (run:Run) (lp:Lp) (k:K):St→Kt→(Ex→Kt)→Option Rs:=
 K.rec (motive:=fun _=>St→Kt→(Ex→Kt)→Option Rs)
  (fun s κn _=>κn s)
  (fun l fl s κn _=>wu C run s.t l (fun σ h=>κn ⟨cx σ s.t fl,h⟩) [] s.h)
  (fun l pl fl s κn κx=>kcR κn κx (at6 C run l pl fl s))
  (fun l1 p1 f1 l2 p2 f2 s κn κx=>kcR κn κx (ao1 C run l1 p1 f1 l2 p2 f2 s))
  (fun _ _ a b s κn κx=>a s (fun s=>b s κn κx) κx)
  (fun c _ _ a b s κn κx=>bJ (ev C [] s.t c) (a s κn κx) (b s κn κx))
  (fun id _ b s κn κx=>b s κn (kcO id κn κx))
  (fun b _ s κn κx=>kcR κn κx (lp b s))
  (fun f p a b _ _ s κn κx=>kcR κn κx (kx C run lp (.rf f p a b) s))
  (fun pre x fl q c ent fl1 id it r _ s κn κx=>kcR κn κx (kx C run lp (.rm pre x fl q c ent fl1 id it r) s))
  (fun e s κn κx=>kcN κn κx s e)
  (fun _ _ _=>none) k
def kSub (k:K) (i:Nat):K:=
 match k with
 | .seq a b=>bq (Nat.beq i 0) a b
 | .cond _ a b=>bq (Nat.beq i 0) a b
 | .block _ b=>b
 | .loop b=>b
 | .rm _ _ _ _ _ _ _ _ _ r=>r
 |_=>.no
def kAt (p:List Nat):K→K:=List.rec (motive:=fun _=>K→K) (fun k=>k) (fun i _ ih k=>ih (kSub k i)) p
def kOf (C:Cx) (f:Nat):K:=Option.rec (motive:=fun _=>K) .no (fun F=>F.k) (dz C f)
end
def aY (F:Ka→Option Rs):Prop:=(∀κ,F κ=none)∨ ∃v h,∀κ,F κ=κ v h
section
variable {α:Type} {C:Cx} {run:Run} {lp:Lp} {σ:List AV} {T:Tms} {h:AH} {x y z:AV} {ds:List (Option Nat)}
theorem N0:aY fun _=>none:=.inl fun _=>rfl
theorem N1 (v:AV) (h:AH):aY fun κ=>κ v h:=.inr ⟨v,h,fun _=>rfl⟩
theorem Nb (c:Bool) {F G:Ka→Option Rs} (hF:aY F) (hG:aY G):aY fun κ=>bq c (F κ) (G κ):=by cases c<;>assumption
theorem No (o:Option α) {F:α→Ka→Option Rs} (H: ∀a,aY (F a)):aY fun κ=>au o fun a=>F a κ:=by
 cases o with
 |none=>exact N0
 |some a=>exact H a
theorem gT (x:AV) {F:Nat→Int→Ka→Option Rs} (H: ∀k n,aY (F k n)):aY fun κ=>da x fun k n=>F k n κ:=by cases x<;>first|exact H _ _|exact N0
theorem at8 (x:AV) {F:Bool→Ka→Option Rs} (H: ∀b,aY (F b)):aY fun κ=>nL x fun b=>F b κ:=by cases x<;>first|exact H _|exact N0
theorem yI (x:AV) {F:List Nat→Ka→Option Rs} (H: ∀b,aY (F b)):aY fun κ=>ij x fun b=>F b κ:=by cases x<;>first|exact H _|exact N0
theorem aiO (x:AV) {F:Nat→Nat→Ka→Option Rs} {G:List AV→Nat→Ka→Option Rs} (H: ∀b o,aY (F b o)) (H': ∀b o,aY (G b o)):aY fun κ=>mi x (fun b o=>F b o κ) (fun c o=>G c o κ):=by
 cases x<;>first|exact H _ _|exact H' _ _|exact N0
theorem auQ (x:AV) {F:List AV→Ka→Option Rs} (H: ∀b,aY (F b)):aY fun κ=>tp x fun b=>F b κ:=by cases x<;>first|exact H _|exact N0
theorem NTup (x:AV) {F:List AV→Ka→Option Rs} (H: ∀b,aY (F b)):aY fun κ=>ae0 x fun b=>F b κ:=by cases x<;>first|exact H _|exact N0
theorem abh (x:AV) {A:Ka→Option Rs} {F:Nat→Nat→Nat→Nat→Nat→Bool→Ka→Option Rs} {G:List AV→Nat→Ka→Option Rs} (HA:aY A) (H: ∀b o l c z e,aY (F b o l c z e)) (H': ∀b o,aY (G b o)):
 aY fun κ=>mz x (A κ) (fun b o l c z e=>F b o l c z e κ) (fun c o=>G c o κ):=by
 cases x<;>first|exact H _ _ _ _ _ _|exact H' _ _|exact HA|exact N0
theorem NFn (x:AV) {F:Nat→List AV→List AV→Ka→Option Rs} (H: ∀b c d,aY (F b c d)):aY fun κ=>am6 x fun b c d=>F b c d κ:=by cases x<;>first|exact H _ _ _|exact N0
theorem axJ (x:AV) {A:Ka→Option Rs} (HA:aY A):aY fun κ=>aea x (A κ):=by cases x<;>first|exact HA|exact N0
theorem zA (h:AH) (b:Nat) {F:List AV→Nat→Ka→Option Rs} (H: ∀cs y,aY (F cs y)):aY fun κ=>pK h b fun cs y=>F cs y κ:=
 No (ab h b) fun B=>by cases B<;>first|exact H _ _|exact N0
theorem aaX (h:AH) (b:Nat) {F:List AV→Nat→Ka→Option Rs} {G:Nat→List (List AV)→Nat→Ka→Option Rs} (H: ∀cs y,aY (F cs y)) (H': ∀z ll y,aY (G z ll y)):aY fun κ=>eP h b (fun cs y=>F cs y κ) (fun z ll y=>G z ll y κ):=
 No (ab h b) fun B=>by cases B<;>first|exact H _ _|exact H' _ _ _|exact N0
theorem NMap (b:Blk) {F:List AV→List AV→Ka→Option Rs} (H: ∀cs y,aY (F cs y)):aY fun κ=>aro b fun cs y=>F cs y κ:=by cases b<;>first|exact H _ _|exact N0
theorem NX (x:Option (AV×AH)):aY fun κ=>aP κ x:=by
 rcases x with _|⟨v,h⟩
 ·exact N0
 ·exact N1 v h
theorem NV (h:AH) (v:Option AV):aY fun κ=>pV κ h v:=No v fun v=>N1 v h
theorem ahM (i:Int) {F:Nat→Ka→Option Rs} (H: ∀b,aY (F b)):aY fun κ=>wD i fun b=>F b κ:=by cases i<;>first|exact H _|exact N0
theorem ama (i:Int) (n:Nat) {F:Nat→Ka→Option Rs} (H: ∀b,aY (F b)):aY fun κ=>inB i n fun b=>F b κ:=ahM i fun m=>Nb _ (H m) N0
theorem aso (len cap:Nat) (lo hi mx:Option AV) {F:Nat→Nat→Nat→Ka→Option Rs} (H: ∀l u m,aY (F l u m)):aY fun κ=>oP len cap lo hi mx fun l u m=>F l u m κ:=
 No _ fun l=>No _ fun u=>No _ fun m=>Nb _ (H l u m) N0
theorem aml (b:Blk):aY fun κ=>cU h b κ:=N1 _ _
theorem afF:aY fun κ=>ao x h κ:=aiO x (fun b o=>aaX h b (fun cs _=>NV h _) fun z ll _=>No _ fun l=>NV h _) fun c o=>NV h _
theorem afm (n:Nat):aY fun κ=>aF n x h κ:=aiO x (fun b o=>aaX h b (fun cs _=>Nb _ (N1 _ _) N0) fun z ll _=>No _ fun l=>Nb _ (N1 _ _) (Nb _ (N1 _ _) N0)) fun c o=>Nb _ (N1 _ _) N0
theorem aln:aY fun κ=>bQ x y h κ:=aiO x (fun b o=>Nb _ (aaX h b (fun cs y=>No _ fun _=>N1 _ _) fun z ll y=>No _ fun l=>No _ fun _=>N1 _ _) N0) fun c o=>N0
theorem anG (n:Nat):aY fun κ=>ay n x y h κ:=auQ y fun vs=>aiO x (fun b o=>Nb _ (aaX h b (fun cs y=>Nb _ (N1 _ _) N0) fun z ll y=>No _ fun l=>Nb _ (N1 _ _) N0) N0) fun c o=>N0
theorem asG (g:Int→Int→Int):aY fun κ=>arith g x y h κ:=gT x fun k a=>gT y fun k' b=>Nb _ (N1 _ _) N0
theorem axi (g:Int→Int→Bool):aY fun κ=>cmp g x y h κ:=gT x fun k a=>gT y fun k' b=>Nb _ (N1 _ _) N0
theorem ax2:aY fun κ=>arE x y h κ:=gT x fun k a=>gT y fun k' b=>Nb _ (N1 _ _) N0
theorem aw9:aY fun κ=>arR x y h κ:=gT x fun k a=>gT y fun k' b=>Nb _ (N1 _ _) N0
theorem ayc (m t:Nat) (g:Nat→Nat→Nat):aY fun κ=>pS m t g x y h κ:=gT x fun k a=>Nb _ (gT y fun k' b=>Nb _ (N1 _ _) N0) N0
theorem axs (m w:Nat):aY fun κ=>ahq m w x y h κ:=gT x fun k a=>gT y fun k' b=>ahM b fun s=>Nb _ (N1 _ _) N0
theorem axH (m w:Nat):aY fun κ=>tx m w x y h κ:=gT x fun k a=>gT y fun k' b=>ahM b fun s=>Nb _ (N1 _ _) N0
theorem axS (m:Nat):aY fun κ=>cvI m x h κ:=gT x fun _ n=>N1 _ _
theorem awN:aY fun κ=>asH x h κ:=gT x fun _ n=>N1 _ _
theorem awD:aY fun κ=>oE x h κ:=at8 x fun _=>N1 _ _
theorem axR (m t:Nat):aY fun κ=>awl m t x h κ:=gT x fun _ n=>Nb _ (N1 _ _) N0
theorem aa7 (m:Bool):aY fun κ=>kh m x y h κ:=gT x fun k a=>gT y fun k' b=>Nb _ (N1 _ _) N0
theorem alB (g:List Nat→List Nat→Bool):aY fun κ=>jl g x y h κ:=yI x fun _=>yI y fun _=>N1 _ _
theorem anF:aY fun κ=>zG x y h κ:=yI x fun _=>yI y fun _=>Nb _ (N1 _ _) N0
theorem arq:aY fun κ=>af9 x h κ:=yI x fun _=>N1 _ _
theorem axG (ti:TI):aY fun κ=>eqlA ti x y h κ:=No _ fun _=>N1 _ _
theorem aw7 (ti:TI):aY fun κ=>neqA ti x y h κ:=No _ fun _=>N1 _ _
theorem au2:aY fun κ=>bG x h κ:=abh x (N1 _ _) (fun _ _ _ _ _ _=>N1 _ _) fun _ _=>N1 _ _
theorem awn:aY fun κ=>ap7 x h κ:=yI x fun _=>N1 _ _
theorem au8:aY fun κ=>arQ x h κ:=No _ fun _=>N1 _ _
theorem ad2:aY fun κ=>ux x h κ:=yI x fun _=>N1 _ _
theorem avE:aY fun κ=>awr x h κ:=abh x N0 (fun b _ _ _ _ _=>zA h b fun _ _=>N1 _ _) fun _ _=>N0
theorem adU:aY fun κ=>dD x h κ:=No _ fun _=>No _ fun _=>No _ fun _=>abh x (N1 _ _) (fun _ _ _ _ _ _=>N1 _ _) fun _ _=>N1 _ _
theorem agp (n:Nat):aY fun κ=>aj n x h κ:=aiO x (fun _ _=>N1 _ _) fun _ _=>N1 _ _
theorem aws (n sz:Nat):aY fun κ=>kn n sz x y h κ:=gT y fun _ i=>ama i n fun m=>agp _
theorem auW (sz:Nat):aY fun κ=>bM sz x y h κ:=gT y fun _ i=>abh x N0 (fun b o l c z e=>ama i l fun m=>Nb _ (N1 _ _) N0) fun cs l=>ama i l fun m=>N1 _ _
theorem auL:aY fun κ=>aqx x y h κ:=yI x fun l=>gT y fun _ i=>ahM i fun m=>No _ fun _=>N1 _ _
theorem amC (o:Nat):aY fun κ=>vP o x h κ:=auQ x fun cs=>NV h _
theorem alg (o n:Nat):aY fun κ=>ur o n x h κ:=auQ x fun cs=>Nb _ (N1 _ _) N0
theorem aq3 (n sz:Nat):aY fun κ=>aeV n sz x y h κ:=gT y fun _ i=>ama i n fun m=>amC _
theorem arY (n sz:Nat):aY fun κ=>ao4 n sz x y h κ:=gT y fun _ i=>ama i n fun m=>alg _ _
theorem awY (i:Nat):aY fun κ=>fu i x h κ:=NTup x fun cs=>NV h _
theorem arL:aY fun κ=>aM x h κ:=axJ x (N1 _ _)
theorem ax1 (lo hi:Option AV):aY fun κ=>slT x lo hi h κ:=yI x fun s=>No _ fun l=>No _ fun u=>Nb _ (N1 _ _) N0
theorem awI (sz:Nat) (lo hi mx:Option AV):aY fun κ=>slS sz x lo hi mx h κ:=
 abh x (aso _ _ _ _ _ fun _ _ _=>N1 _ _) (fun b o l c z e=>aso _ _ _ _ _ fun _ _ _=>Nb _ (Nb _ (N1 _ _) (N1 _ _)) N0) fun cs l=>aso _ _ _ _ _ fun _ _ _=>Nb _ (Nb _ (N1 _ _) (N1 _ _)) N0
theorem aw6 (n sz:Nat) (lo hi:Option AV):aY fun κ=>slA n sz x lo hi h κ:=
 aiO x (fun b o=>zA h b fun cs _=>Nb _ (aso _ _ _ _ _ fun _ _ _=>Nb _ (N1 _ _) (N1 _ _)) N0) fun _ _=>N0
theorem awt (sz by_:Nat) (ze:List AV):aY fun κ=>adz sz by_ ze x y h κ:=gT x fun k l=>gT y fun k' c=>ahM l fun l=>ahM c fun c=>Nb _ (N1 _ _) N0
theorem auw (p:Nat→Option (Nat×Nat)) (ze:List AV) (ps:List (Nat×AV)):aY fun κ=>dX p ze ps h κ:=No _ fun _=>N1 _ _
theorem auR (sz len:Nat) (ze:List AV) (ps:List (Nat×AV)):aY fun κ=>fA sz len ze ps h κ:=Nb _ (No _ fun _=>N1 _ _) N0
theorem av8 (ki ei:TI) (ok:Bool):aY fun κ=>nG ki ei ok x y h κ:=No _ fun _=>Nb _ (No _ fun _=>NV h _) N0
theorem ab5 (ki:TI):aY fun κ=>yD ki x y z h κ:=by
 cases x<;>first|exact N0|exact No _ fun b=>NMap b fun _ _=>Nb _ (No _ fun _=>N1 _ _) N0
theorem axU (ki:TI):aY fun κ=>avu ki x y h κ:=by
 cases x<;>first|exact N0|exact Nb _ (N1 _ _) N0|exact No _ fun b=>NMap b fun _ _=>Nb _ (No _ fun _=>N1 _ _) N0
theorem axN (sz:Nat) (ze:List AV):aY fun κ=>av6 sz ze x h κ:=
 abh x (N1 _ _) (fun b o l c z e=>Nb _ (N1 _ _) (Nb _ (zA h b fun cs yy=>Nb _ (N1 _ _) N0) N0)) fun _ _=>Nb _ (N1 _ _) N0
theorem atq (ty sz by_:Nat):aY fun κ=>gg ty sz by_ x y h κ:=
 No _ fun n=>No _ fun new=>Nb _ (abh x (Nb _ (N1 _ _) (Nb _ (N1 _ _) N0)) (fun b o l c z e=>Nb _ (aaX h b (fun cs yy=>Nb _ (Nb _ (N1 _ _) N0) (Nb _ (N1 _ _) N0)) fun z ll yy=>Nb _ (Nb _ (Nb _ (N1 _ _) N0) (Nb _ (N1 _ _) N0)) N0) N0) fun _ _=>Nb _ (N1 _ _) N0) N0
theorem au1 (sz:Nat):aY fun κ=>aoU sz x y h κ:=
 No _ fun n=>No _ fun m=>No _ fun new=>Nb _ (abh x (N1 _ _) (fun b o l c z e=>Nb _ (zA h b fun cs yy=>Nb _ (N1 _ _) N0) N0) fun _ _=>Nb _ (N1 _ _) N0) N0
theorem aya (ty:Nat):aY fun κ=>fQ ty x h κ:=Nb _ (aml _) N0
theorem awd:aY fun κ=>fw x y z h κ:=at8 x fun _=>N1 _ _
theorem asY (args:List AV):aY fun κ=>am6 x (atE C run args h κ):=NFn x fun f a c=>NX _
theorem dT:aY (no.f C run σ T h):=N0
theorem eA (t:Nat) {f:TI→OK} (H: ∀ti,aY ((f ti).f C run σ T h)):aY ((tyK C t f).f C run σ T h):=by
 unfold tyK
 split
 ·exact H _
 ·exact dT
theorem yO (c:Bool) {k l:OK} (hk:aY (k.f C run σ T h)) (hl:aY (l.f C run σ T h)):aY ((bq c k l).f C run σ T h):=by cases c<;>assumption
theorem wK (n:Nat) {k:OK} (hk:aY (k.f C run σ T h)):aY ((nz n k).f C run σ T h):=yO _ dT hk
theorem axP (op:BinOp) (k:IntKind) (a b:Od):aY ((xk op k a b).f C run σ T h):=by
 cases op<;>first|exact asG _|exact axi _|exact ax2|exact aw9|exact ayc _ _ _|exact axs _ _|exact axH _ _
theorem axy (op:BinOp) (a b:Od):aY ((xE op a b).f C run σ T h):=by
 cases op<;>first|exact anF|exact alB _|exact dT
theorem axM (op:BinOp) (ti:TI) (a b:Od):aY ((aej op ti a b).f C run σ T h):=by
 unfold aej
 split
 ·exact axP _ _ _ _
 ·exact axy _ _ _
 ·split
  ·exact axG _
  ·exact aw7 _
  ·exact dT
theorem N_un (op:UnOp) (ti:TI) (a:Od):aY ((unK op ti a).f C run σ T h):=by
 unfold unK
 split
 ·exact awN
 ·exact awD
 ·exact axR _ _
 ·exact dT
theorem av2 (sd:Bool) (si di:TI) (a:Od):aY ((iO C sd si di a).f C run σ T h):=by
 unfold iO
 split
 ·exact axS _
 ·exact arq
 ·exact yO _ ad2 dT
 ·exact yO _ adU dT
 ·exact yO _ avE dT
 ·exact dT
theorem avy (c:Call):aY ((qw C c ds).f C run σ T h):=by
 unfold qw
 split
 ·exact NX _
 ·exact asY _
 ·split
  ·refine eA _ fun ti=>?_
   split
   ·exact awn
   ·exact au2
   ·exact au8
   ·exact N1 _ _
   ·exact dT
  ·exact dT
 ·split
  ·refine eA _ fun ti=>eA _ fun ui=>?_
   split
   ·exact eA _ fun ei=>wK _ (wK _ (atq _ _ _))
   ·exact eA _ fun ei=>wK _ (wK _ (atq _ _ _))
   ·exact dT
  ·exact dT
 ·split
  ·refine eA _ fun ti=>?_
   split
   ·exact eA _ fun ei=>wK _ (au1 _)
   ·exact dT
  ·exact dT
 ·split
  ·exact aa7 _
  ·exact dT
 ·split
  ·exact aa7 _
  ·exact dT
 ·split
  ·refine eA _ fun ti=>?_
   split
   ·exact eA _ fun ki=>axU _
   ·exact dT
  ·exact dT
 ·split
  ·refine eA _ fun ti=>?_
   split
   ·exact eA _ fun ei=>wK _ (axN _ _)
   ·exact dT
  ·exact dT
 ·exact dT
theorem N_op (o:Op):aY ((opK C ds o).f C run σ T h):=by
 cases o
 case move x=>exact N1 _ _
 case assign x=>exact N1 _ _
 case pick c x y=>exact awd
 case alloc el=>exact eA _ fun ti=>aml _
 case box el x=>exact aya _
 case build t ps=>
  refine eA _ fun ti=>?_
  split
  ·exact yO _ (auw _ _ _) dT
  ·exact eA _ fun ei=>auw _ _ _
  ·exact dT
 case buildSlice t n ps=>
  refine eA _ fun ti=>?_
  split
  ·exact eA _ fun ei=>wK _ (auR _ _ _ _)
  ·exact dT
 case insert t m k x=>
  refine eA _ fun ti=>?_
  split
  ·exact eA _ fun ei=>ab5 _
  ·exact dT
 case mapUpdate t m k x=>
  refine eA _ fun ti=>?_
  split
  ·exact eA _ fun ei=>ab5 _
  ·exact dT
 case load t p=>exact eA _ fun ti=>yO _ (afm _) afF
 case store t p x=>exact eA _ fun ti=>yO _ (anG _) aln
 case nilCheck x=>exact arL
 case binOp op t x y ty=>exact eA _ fun ti=>axM _ _ _ _
 case unOp op t x=>exact eA _ fun ti=>N_un _ _ _
 case convert s d x=>exact eA _ fun si=>eA _ fun di=>av2 _ _ _ _
 case makeFunc fn fi ca=>cases fn<;>first|exact N1 _ _|exact dT
 case makeMap t r=>cases r<;>first|exact N1 _ _|exact dT
 case makeSlice t l c=>
  refine eA _ fun ti=>?_
  split
  ·exact eA _ fun ei=>wK _ (awt _ _ _)
  ·exact dT
 case slice t x lo hi mx=>
  refine eA _ fun ti=>?_
  split
  ·split
   ·exact ax1 _ _
   ·exact dT
  ·exact eA _ fun ei=>awI _ _ _ _
  ·split
   ·exact eA _ fun ei=>wK _ (aw6 _ _ _ _)
   ·exact dT
  ·exact dT
 case fieldAddr t x f=>
  show aY ((match eU C t f with|some (off,ui)=>nz ui.size (OK.mk (o1 (aj off) (od ds x)))|none=>no).f C run σ T h)
  split
  ·exact wK _ (agp _)
  ·exact dT
 case field t x f=>
  show aY ((match eU C t f with|some (off,ui)=>bq ui.agg (OK.mk (o1 (ur off ui.size) (od ds x))) (OK.mk (o1 (vP off) (od ds x)))|none=>no).f C run σ T h)
  split
  ·exact yO _ (alg _ _) (amC _)
  ·exact dT
 case indexAddr t x i=>
  refine eA _ fun ti=>?_
  split
  ·exact eA _ fun ei=>aws _ _
  ·exact eA _ fun ei=>auW _
  ·exact dT
 case index t x i=>
  refine eA _ fun ti=>?_
  split
  ·exact eA _ fun ei=>yO _ (arY _ _) (aq3 _ _)
  ·exact auL
  ·exact dT
 case lookup t x i cok=>
  refine eA _ fun ti=>?_
  split
  ·exact eA _ fun ki=>eA _ fun ei=>av8 _ _ _
  ·exact dT
 case extract x i=>exact awY _
 case call c=>exact avy c
 all_goals exact dT
theorem asU (x:Od) (w:Bool) {k:OK} (hk:aY (k.f C run σ T h)):aY ((OK.mk (zD x w k.f)).f C run σ T h):=No _ fun b=>Nb b hk (N1 _ _)
theorem N_gd (ops:List Oper) (g:Option (Nat×Bool)) {k:OK} (hk:aY (k.f C run σ T h)):aY ((gdK ops ds g k).f C run σ T h):=by
 unfold gdK
 split
 ·exact hk
 ·split
  ·split
   ·exact asU _ _ hk
   ·exact dT
  ·exact dT
end
def sP (C:Cx) (o:OK):Prop:=∀run σ T h,aY (o.f C run σ T h)
def eQ (C:Cx) (k:K):Prop:=
 K.rec (motive:=fun _=>Prop) True (fun l _=>∀o∈l,sP C o) (fun _ _ _=>True) (fun _ _ _ _ _ _=>True) (fun _ _ a b=>a∧b) (fun _ _ _ a b=>a∧b) (fun _ _ b=>b) (fun _ b=>b) (fun _ _ _ _ _ _=>True)
  (fun _ _ _ _ _ _ _ _ _ _ r=>r) (fun _=>True) True k
theorem xi (C:Cx) (ops:List Oper): ∀(l:List Oper) (ds:List (Option Nat)),∀o∈bo C ops ds l,sP C o
 |[],_,o,ho=>by cases ho
 |a::r,ds,o,ho=>by
  rcases Bv.1 ho with rfl|ho
  ·exact fun run σ T h=>N_gd ops a.guard (N_op a.op)
  ·exact xi C ops r (a.dst::ds) o ho
theorem iE (C:Cx) (ps:List Nat): ∀c:Code,eQ C (comp C ps c)
 | .skip=>trivial
 | .region _ ops d=>by
   show eQ C (bq d (bq (fy C ops) (.draw _ _ _) (abu C ps ops)) (.reg (bo C ops.toList [] ops.toList) _))
   cases d with
   |false=>exact xi C _ _ _
   |true=>
    show eQ C (bq (fy C ops) (.draw _ _ _) (abu C ps ops))
    cases fy C ops with
    |true=>exact trivial
    |false=>
     show eQ C (abu C ps ops);unfold abu
     split
     ·rename_i i j _
      cases aaV C ops i j<;>exact trivial
     ·exact trivial
 | .seq a b=>by
   have ha:=iE C ps a;have hb:=iE C ps b;show eQ C (vI C ps a b (comp C ps a) (comp C ps b))
   revert ha hb
   generalize comp C ps a=ka
   generalize comp C ps b=kb
   intro ha hb;unfold vI
   split
   ·split
    ·exact hb.2.2.2
    ·exact ⟨ha,hb⟩
   ·exact ⟨ha,hb⟩
 | .cond c a b=>⟨iE C ps a,iE C ps b⟩
 | .block _ b=>iE C ps b
 | .loop b=>iE C ps b
 | .rangeFunc _ pa a b=>by
   unfold comp
   split
   ·cases and (te C a) (te C b)<;>trivial
   ·trivial
 | .exit _=>trivial
 | .scope b=>iE C ps b
 | .label _=>trivial
 | .goto _=>trivial
 | .ret=>trivial
 | .refuse _=>trivial
theorem amJ {C:Cx} {k:K} (i:Nat) (hk:eQ C k):eQ C (kSub k i):=by
 cases k with
 |seq a b=>show eQ C (bq _ a b);cases Nat.beq i 0<;>first|exact hk.1|exact hk.2
 |cond c a b=>show eQ C (bq _ a b);cases Nat.beq i 0<;>first|exact hk.1|exact hk.2
 |block _ b=>exact hk
 |loop b=>exact hk
 |rm _ _ _ _ _ _ _ _ _ r=>exact hk
 |_=>exact trivial
theorem iX {C:Cx}: ∀(p:List Nat) {k:K},eQ C k→eQ C (kAt p k)
 |[],_,hk=>hk
 |i::p,_,hk=>iX p (amJ i hk)
theorem anj {C:Cx} {fn:Func} {F:FK} (e:acP C fn=some F):eQ C F.k:=by
 unfold acP at e
 split at e
 ·rename_i c _
  obtain ⟨_,e2⟩:=aB e
  cases e2
  exact iE C _ c
 ·cases e
theorem iT (C:Cx) (f:Nat):eQ C (kOf C f):=by
 unfold kOf dz
 cases hf:C.fn f with
 |none=>exact trivial
 |some fn=>
  show eQ C (Option.rec (motive:=fun _=>K) .no (fun F=>F.k) (acP C fn))
  cases hk:acP C fn with
  |none=>exact trivial
  |some F=>exact anj hk
section
variable {C:Cx} {run:Run} {lp:Lp}
theorem amL (κn:Kt) (κx:Ex→Kt):kcR κn κx none=none:=(rfl)
theorem afH (κn:Kt) (κx:Ex→Kt) (s:St):kcR κn κx (some (.nrm,s))=κn s:=(rfl)
theorem ake (κn:Kt) (κx:Ex→Kt) (i:Nat) (s:St):kcR κn κx (some (.exit i,s))=κx (.exit i) s:=(rfl)
theorem ara (κn:Kt) (κx:Ex→Kt) (s:St):kcR κn κx (some (.ret,s))=κx .ret s:=(rfl)
theorem aj2 (κn:Kt) (κx:Ex→Kt) (T:Tms) (fl:List (Nat×Nat)): ∀(l:List OK),(∀o∈l,sP C o)→ ∀(σ:List AV) (h:AH),
 wu C run T l (fun σ h=>κn ⟨cx σ T fl,h⟩) σ h=kcR κn κx (dr (gW C run fl T l σ h))
 |[],_,σ,h=>rfl
 |⟨f⟩::r,hl,σ,h=>by
  have hr:=fun v h'=>aj2 κn κx T fl r (fun o ho=>hl o (Bh _ ho)) (v::σ) h'
  show f C run σ T h (fun v=>wu C run T r (fun σ h=>κn ⟨cx σ T fl,h⟩) (v::σ))=kcR κn κx (dr (f C run σ T h fun v=>gW C run fl T r (v::σ)));rcases hl _ (BB ..) run σ T h with hn|⟨v,h',hn⟩
  ·rw [show f C run σ T h (fun v=>wu C run T r (fun σ h=>κn ⟨cx σ T fl,h⟩) (v::σ))=none from hn _,show f C run σ T h (fun v=>gW C run fl T r (v::σ))=none from hn _];rfl
  ·rw [show f C run σ T h (fun v=>wu C run T r (fun σ h=>κn ⟨cx σ T fl,h⟩) (v::σ))=wu C run T r (fun σ h=>κn ⟨cx σ T fl,h⟩) (v::σ) h' from hn _,show f C run σ T h (fun v=>gW C run fl T r (v::σ))=gW C run fl T r (v::σ) h' from hn _]
   exact hr v h'
theorem mh: ∀(k:K),eQ C k→ ∀(s:St) (κn:Kt) (κx:Ex→Kt),kc C run lp k s κn κx=kcR κn κx (kx C run lp k s)
 | .skip,_,s,κn,κx=>rfl
 | .reg l fl,hk,s,κn,κx=>aj2 κn κx s.t fl l hk [] s.h
 | .draw _ _ _,_,s,κn,κx=>rfl
 | .draw2 _ _ _ _ _ _,_,s,κn,κx=>rfl
 | .seq a b,hk,s,κn,κx=>by
   show kc C run lp a s (fun s=>kc C run lp b s κn κx) κx=kcR κn κx (au (kx C run lp a s) (vf (kx C run lp b)));rw [mh a hk.1];rcases kx C run lp a s with _|⟨e,s'⟩
   ·rfl
   ·cases e with
    |nrm=>exact mh b hk.2 s' κn κx
    |exit i=>rfl
    |ret=>rfl
 | .cond c a b,hk,s,κn,κx=>by
   show bJ (ev C [] s.t c) (kc C run lp a s κn κx) (kc C run lp b s κn κx)=kcR κn κx (kIf (ev C [] s.t c) (kx C run lp a) (kx C run lp b) s);rw [mh a hk.1,mh b hk.2]
   cases ev C [] s.t c<;>try rfl
   rename_i q
   cases q<;>rfl
 | .block id b,hk,s,κn,κx=>by
   show kc C run lp b s κn (kcO id κn κx)=kcR κn κx (au (kx C run lp b s) (aqO id));rw [mh b hk];rcases kx C run lp b s with _|⟨e,s'⟩
   ·rfl
   ·cases e with
    |nrm=>rfl
    |exit i=>
     show bq (Nat.beq i id) (κn s') (κx (.exit i) s')=kcR κn κx (bq (Nat.beq i id) (some (.nrm,s')) (some (.exit i,s')))
     cases Nat.beq i id<;>rfl
    |ret=>rfl
 | .loop b,_,s,κn,κx=>rfl
 | .rf _ _ _ _,_,s,κn,κx=>rfl
 | .rm _ _ _ _ _ _ _ _ _ _,_,s,κn,κx=>rfl
 | .ex e,_,s,κn,κx=>by cases e<;>rfl
 | .no,_,s,κn,κx=>rfl
theorem aq9 (n:Nat) {b:K} (hb:eQ C b) (s:St) (κn:Kt) (κx:Ex→Kt):
 kcR κn κx ((rl C (n+1)).lp b s)=kc C (rl C n).run (rl C n).lp b s (fun s=>kcR κn κx ((rl C n).lp b s)) κx:=by
 rw [axq,mh b hb];rcases kx C (rl C n).run (rl C n).lp b s with _|⟨e,s'⟩
 ·rfl
 ·cases e<;>rfl
end
noncomputable section
def kcE (C:Cx) (rs:List ResultVar):Kt:=fun s=>au (nF C s.h s.t rs) fun l=>some (.vh (acU l) s.h)
def kcQ (C:Cx) (rs:List ResultVar) (e:Ex):Kt:=fun s=>Ex.rec (motive:=fun _=>Option Rs) (kcE C rs s) (fun _=>none) (kcE C rs s) e
def abS (C:Cx) (s:St) (rs:List ResultVar):(List AV→Option Rs)→Option Rs:=
 List.rec (motive:=fun _=>(List AV→Option Rs)→Option Rs) (fun κ=>κ []) (fun r _ ih κ=>ResultVar.rec (motive:=fun _=>Option Rs) (fun i=>ih fun l=>κ (bc s.t i::l))
  (fun a ty=>au (C.ty ty) fun ti=>bq ti.agg (aF ti.size (bc s.t a) s.h fun v _=>ih fun l=>κ (v::l)) (ao (bc s.t a) s.h fun v _=>ih fun l=>κ (v::l))) r) rs
end
section
variable {C:Cx} {run:Run} {lp:Lp}
theorem acN (s:St): ∀(rs:List ResultVar) (κ:List AV→Option Rs),au (nF C s.h s.t rs) κ=abS C s rs κ
 |[],κ=>rfl
 | .tmp i::r,κ=>by
   show au (match nF C s.h s.t r with|some l=>some (bc s.t i::l)|none=>none) κ=abS C s r fun l=>κ (bc s.t i::l)
   rw [←acN s r]
   cases nF C s.h s.t r<;>rfl
 | .cell a ty::r,κ=>by
   show au (match vhO (aeP C ty (bc s.t a) s.h),nF C s.h s.t r with|some x,some l=>some (x.1::l)|_,_=>none) κ=au (C.ty ty) fun ti=>bq ti.agg (aF ti.size (bc s.t a) s.h fun v _=>abS C s r fun l=>κ (v::l)) (ao (bc s.t a) s.h fun v _=>abS C s r fun l=>κ (v::l))
   have ih:=fun v=>acN s r fun l=>κ (v::l)
   unfold aeP
   cases C.ty ty with
   |none=>rfl
   |some ti=>
    show au (match vhO (bq ti.agg (aF ti.size (bc s.t a) s.h kVH) (ao (bc s.t a) s.h kVH)),nF C s.h s.t r with|some x,some l=>some (x.1::l)|_,_=>none) κ=bq ti.agg (aF ti.size (bc s.t a) s.h fun v _=>abS C s r fun l=>κ (v::l)) (ao (bc s.t a) s.h fun v _=>abS C s r fun l=>κ (v::l));have fin: ∀F:Ka→Option Rs,aY F→au (match vhO (F kVH),nF C s.h s.t r with|some x,some l=>some (x.1::l)|_,_=>none) κ=F fun v _=>abS C s r fun l=>κ (v::l):=by
     intro F hF;rcases hF with hF|⟨v,h',hF⟩
     ·rw [hF,hF];rfl
     ·rw [hF,hF,←ih v]
      cases nF C s.h s.t r<;>rfl
    cases ti.agg with
    |true=>exact fin _ (afm _)
    |false=>exact fin _ afF
theorem bW (C:Cx) (rs:List ResultVar) (s:St):kcE C rs s=abS C s rs fun l=>some (.vh (acU l) s.h):=acN s rs _
theorem avA (rs:List ResultVar) (x:Option (Ex×St)):au x (avr C rs)=vhO (kcR (kcE C rs) (kcQ C rs) x):=by
 have he: ∀s:St,(match nF C s.h s.t rs with|some l=>some (acU l,s.h)|none=>none)=vhO (kcE C rs s):=by
  intro s;unfold kcE
  cases nF C s.h s.t rs<;>rfl
 rcases x with _|⟨e,s⟩
 ·rfl
 ·cases e with
  |nrm=>exact he s
  |exit i=>rfl
  |ret=>exact he s
theorem bV {f:Nat} {F:FK} {args:List AV} {h:AH} (ho:C.orc f=none) (hf:dz C f=some F) (hl:Nat.ble (ag args) F.n=true):
 dk C run lp f args h=vhO (kc C run lp F.k ⟨ae4 args F.ps,h⟩ (kcE C F.rs) (kcQ C F.rs)):=by
 have hn:eQ C F.k:=by
  have:=iT C f
  unfold kOf at this;rw [hf] at this;exact this
 unfold dk;rw [ho];unfold runB;rw [hf];show amS C run lp args h F.k F.ps F.n F.rs=_;unfold amS;rw [hl,aA,avA,mh _ hn]
end
attribute [irreducible] eQ kOf kAt kc
def Ends (P:AV→AH→Prop) (x:Option Rs):Prop:=∃r h,x=some (.vh r h)∧P r h
def aL (P:AV→AH→Prop) (x:Option (AV×AH)):Prop:=∃r h,x=some (r,h)∧P r h
section
variable {C:Cx} {run:Run} {lp:Lp} {Q:Option Rs→Prop} {A B:Option Rs} {κ:Ka} {h:AH} {P R:AV→AH→Prop}
theorem Ends.mk {r:AV} {h:AH} (p:P r h):Ends P (some (.vh r h)):=⟨r,h,rfl,p⟩
theorem aL.mono {x:Option (AV×AH)} (g:aL P x) (i: ∀r h,P r h→R r h):aL R x:=by
 obtain ⟨r,h,e,p⟩:=g;exact ⟨r,h,e,i r h p⟩
theorem aL.of {x y:Option (AV×AH)} (e:x=y) (g:aL P y):aL P x:=by rw [e];exact g
theorem Ends.gives {x:Option Rs} (e:Ends P x):aL P (vhO x):=by
 obtain ⟨r,h,rfl,p⟩:=e;exact ⟨r,h,rfl,p⟩
theorem anV:bJ (.bool true) A B=A:=(rfl)
theorem aen:bJ (.bool false) A B=B:=(rfl)
theorem ax4 (id:Nat) (κn:Kt) (κx:Ex→Kt) (s:St):kcO id κn κx .nrm s=κn s:=(rfl)
theorem vY (id:Nat) (κn:Kt) (κx:Ex→Kt) (s:St):kcO id κn κx .ret s=κx .ret s:=(rfl)
theorem mW (id i:Nat) (κn:Kt) (κx:Ex→Kt) (s:St):kcO id κn κx (.exit i) s=bq (decide (i=id)) (κn s) (κx (.exit i) s):=by rw [←lJ];rfl
theorem iQ (rs:List ResultVar) (s:St):kcQ C rs .ret s=kcE C rs s:=(rfl)
theorem cy {x:Option (AV×AH)} (g:aL P x) (k: ∀r h',P r h'→Q (κ r h')):Q (aP κ x):=by
 obtain ⟨r,h',rfl,p⟩:=g;exact k r h' p
theorem wEq (e:A=B) (q:Q B):Q A:=by rw [e];exact q
theorem aL.call {f:Nat} {args:List AV} (g:aL P (run f args h)) (hx:C.ext f=none:=by kernel_rfl) (ho:C.own f=true:=by kernel_rfl) (ht:C.tr f=false:=by kernel_rfl):aL P (aH C run f args h):=by
 obtain ⟨r,h',e,p⟩:=g;exact ⟨r,h',alx hx ho ht e,p⟩
theorem aL.runs {n f:Nat} {args:List AV} {x:Option Rs} (e:dk C (rl C n).run (rl C n).lp f args h=vhO x) (p:Ends P x):aL P ((rl C (n+1)).run f args h):=by
 rw [avj,e];exact p.gives
theorem de {n:Nat} {b:K} {s:St} {κn:Kt} {κx:Ex→Kt} (hb:eQ C b) (q:Q (kc C (rl C n).run (rl C n).lp b s (fun s=>kcR κn κx ((rl C n).lp b s)) κx)):Q (kcR κn κx ((rl C (n+1)).lp b s)):=by
 rw [aq9 n hb];exact q
theorem fuel {n k:Nat} (h:k≤n): ∃m,n=m+k:=⟨n-k,by omega⟩
end
section
variable {h:AH} {κ:Ka}
def cO (v:AV) (cs:List AV):Prop:=(cs=[]∧(v= .aa∨v= .sle))∨v= .slp cs cs.length
theorem cO.at {v:AV} {cs:List AV} (p:cO v cs) (h:AH):cW h v cs:=by
 rcases p with ⟨rfl,p⟩|rfl
 ·exact .inl ⟨rfl,p⟩
 ·exact .inr (.inl ⟨cs,rfl,by simp⟩)
theorem cO.lt {v:AV} {cs:List AV} (p:cO v cs) (k:Nat):v.lt k=true:=by
 rcases p with ⟨_,rfl|rfl⟩|rfl<;>rfl
theorem cO.len {v:AV} {cs:List AV} (p:cO v cs) (h:AH) (κ:Ka):bG v h κ=κ (.int 9223372036854775807 (cs.length:Int)) h:=(p.at h).bG h κ
theorem cO.cut {v:AV} {cs:List AV} (p:cO v cs) (hne:cs≠[]) {l u:Nat} (h1:l≤u) (h2:u≤cs.length) (k k':Nat) (h:AH) (κ:Ka):
 slS 1 v (some (.int k (l:Int))) (some (.int k' (u:Int))) none h κ=κ (.slp ((cs.drop l).take (u-l)) (u-l)) h:=by
 rcases p with ⟨rfl,_⟩|rfl
 ·exact absurd rfl hne
 ·show bq (and (and (Nat.ble l u) (Nat.ble u cs.length)) (and (Nat.ble cs.length cs.length) (or (not false) true))) (bq (Nat.beq (ag cs) (Nat.mul cs.length 1)) (bq (and false (Nat.beq l cs.length)) (κ .sle h) (κ (.slp (cE (Nat.mul (Nat.sub u l) 1) (cL (Nat.mul l 1) cs)) (Nat.sub u l)) h)) none) none=_
  rw [cq,cq,cq,ah,decide_eq_true h1,decide_eq_true h2,decide_eq_true (A9 _),lJ,decide_eq_true (show cs.length=Nat.mul cs.length 1 from (BW _).symm),aS,bt,show Nat.mul l 1=l from BW _,show Nat.mul (Nat.sub u l) 1=u-l from BW _];rfl
theorem cO.tail {v:AV} {cs:List AV} (p:cO v cs) (hne:cs≠[]) {l:Nat} (h2:l≤cs.length) (k:Nat) (h:AH) (κ:Ka):
 slS 1 v (some (.int k (l:Int))) none none h κ=κ (.slp (cs.drop l) (cs.length-l)) h:=by
 rcases p with ⟨rfl,_⟩|rfl
 ·exact absurd rfl hne
 ·show bq (and (and (Nat.ble l cs.length) (Nat.ble cs.length cs.length)) (and (Nat.ble cs.length cs.length) (or (not false) false))) (bq (Nat.beq (ag cs) (Nat.mul cs.length 1)) (bq (and false (Nat.beq l cs.length)) (κ .sle h) (κ (.slp (cE (Nat.mul (Nat.sub cs.length l) 1) (cL (Nat.mul l 1) cs)) (Nat.sub cs.length l)) h)) none) none=_
  rw [cq,cq,ah,decide_eq_true h2,decide_eq_true (A9 _),lJ,decide_eq_true (show cs.length=Nat.mul cs.length 1 from (BW _).symm),aS,bt,show Nat.mul l 1=l from BW _,show Nat.mul (Nat.sub cs.length l) 1=cs.length-l from BW _,Ch (by simp)];rfl
theorem cO.mk (cs:List AV) {n:Nat} (h:n=cs.length):cO (.slp cs n) cs:=.inr (by rw [h])
end
section
variable {h:AH} {κ:Ka} {Q:Option Rs→Prop}
theorem auS {z c:AV} (hn:c.nb=true) (hc:c.cells=[c]):fA 1 1 [z] [(0,c)] h κ=κ (.slo h.length 0 1 1 1 true) (h++[some (.cells [c] 0)]):=by
 have e:fA 1 1 [z] [(0,c)] h κ=bq true (au (bq (and c.nb (and (Nat.beq (ag c.cells) 1) (Nat.ble (Nat.add 0 1) 1))) (some (fK [z] 0 c.cells)) none) fun cs=>κ (.slo (ag h) 0 1 1 1 true) (av h [some (.cells cs 0)])) none:=by kernel_rfl
 have e2:fK [z] 0 [c]=[c]:=by kernel_rfl
 rw [e,hn,hc,e2];show κ (.slo (ag h) 0 1 1 1 true) (av h [some (.cells [c] 0)])=_;rw [ah,aV]
theorem abU (z:AV) (s:List Nat):fA 1 1 [z] [(0,.str s)] h κ=κ (.slo h.length 0 1 1 1 true) (h++[some (.cells [.str s] 0)]):=auS rfl rfl
theorem iJ.new {m:Nat} (hm:m≤h.length) (c:AV) (y:Nat) (e:Bool):iJ m (h++[some (.cells [c] y)]) (.slo h.length 0 1 1 1 e) [c]:=.inr ⟨h.length,y,e,hm,rfl,aD _ _⟩
theorem iJ.nil {m:Nat}:iJ m h .aa []:=.inl ⟨rfl,rfl⟩
theorem iJ.push {m:Nat} {v:AV} {cs:List AV} (r:iJ m h v cs) (x:AH):iJ m (h++x) v cs:=r.up fun i _ hi=>ak hi x
end
def aI (l:List Nat):List AV:=l.map fun b:Nat=>AV.int 255 (b:Int)
def eS (l:List (List Nat)):List AV:=l.map AV.str
theorem ba (l:List Nat):(aI l).length=l.length:=by simp [aI]
theorem rK (l:List (List Nat)):(eS l).length=l.length:=by simp [eS]
theorem ya (a b:List (List Nat)):eS (a++b)=eS a++eS b:=by simp [eS]
theorem oN: ∀l:List Nat,aO (aI l)=true
 |[]=>rfl
 |a::r=>by show and true (aO (aI r))=true;rw [oN r];rfl
theorem py {l:List Nat} {i b:Nat} (h:l[i]? =some b):(aI l)[i]? =some (.int 255 (b:Int)):=by unfold aI;rw [Bn,h];rfl
theorem xY {l:List (List Nat)} {i:Nat} {b:List Nat} (h:l[i]? =some b):(eS l)[i]? =some (.str b):=by unfold eS;rw [Bn,h];rfl
theorem jY (n:Nat) (l:List Nat):(aI l).drop n=aI (l.drop n):=by unfold aI;rw [List.map_drop]
theorem nB (n:Nat) (l:List Nat):(aI l).take n=aI (l.take n):=by unfold aI;rw [List.map_take]
theorem xZ: ∀{l:List Nat},(∀b∈l,b<256)→bytesOf (aI l)=some l
 |[],_=>rfl
 |a::r,h=>by
  have ih:=xZ (l:=r) fun b hb=>h b (Bh _ hb)
  have ha:a<256:=h a (BB ..);unfold bytesOf at*;rw [dA] at*;show jD (lB (.int 255 (Int.ofNat a))::(aI r).map lB)=_
  have:lB (.int 255 (Int.ofNat a))=some a:=by
   show bq (and (Nat.beq 255 255) (Nat.blt a 256)) (some a) none=_;rw [wG,decide_eq_true ha];rfl
  rw [this];unfold jD;rw [ih]
theorem zk {h:AH} {v:AV} {l:List Nat} (s:cW h v (aI l)) (hl: ∀b∈l,b<256) (κ:Ka):dD v h κ=κ (.str l) h:=by
 have e:=s.elems;unfold dD;rw [s.qB,aT,e,aT,xZ hl,aT];rcases s with ⟨_,rfl|rfl⟩|⟨row,rfl,_⟩|⟨b,o,n,row,y,e,rfl,_⟩<;>rfl
def sy0:=Du @aaF<|Du @abv<|Du @af3<|Du @afU<|Du @af6<|Du @afV<|Du @min_eq<|Du @max_eq<|Du @asN<|Du @av0<|Du @awy<|Du @aon<|Du @ahL<|Du @avf<|Du @avK<|Du @adJ<|Du @aqC<|Du @avX<|Du @asE<|Du @avH<|Du @awc<|Du @alK<|Du @awo<|Du @sj<|Du @avJ<|Du @bqT<|Du @bqF<|Du @vr<|Du @abE<| @dK
def sy1:=Du @eB<|Du @cmp_eq<|Du @dS<|Du @aqI<|Du @arS<|Du @afA<|Du @asz<|Du @vW<|Du @tR<|Du @aev<|Du @vT<|Du @lE<|Du @zq<|Du @jJ<|Du @yW<|Du @fM<|Du @qy<|Du @aiz<|Du @ams<|Du @avx<|Du @avT<|Du @aqk<|Du @yz<|Du @vn<|Du @asp<|Du @rR<|Du @amq<|Du @ar7<|Du @ar5<| @jH
def sy2:=Du @aqp<|Du @asQ<|Du @aiV<|Du @wZ<|Du @lC<|Du @adY<|Du @mA<|Du @axk<|Du @afz<|Du @iltE<|Du @av1<|Du @ileE<|Du @igeE<|Du @ineE<|Du @va<|Du @aD<|Du @agU<|Du @aiN<|Du @ae5<|Du @ads<|Du @aaS<|Du @ah4<|Du @adQ<|Du @ajf<|Du @adF<|Du @aiA<|Du @ahA<|Du @aje<|Du @ai3<| @aid
def sy3:=Du @ah5<|Du @alu<|Du @avN<|Du @arB<|Du @avb<|Du @avd<|Du @aru<|Du @au3<|Du @awz<|Du @xO<|Du @aim<|Du @acF<|Du @ajG<|Du @amL<|Du @afH<|Du @ake<|Du @ara<|Du @ax4<|Du @vY<|Du @mW<|Du @iQ<|Du @anV<| @aen
def syL:=Du @Bb.{0}<|Du @Nat.le_add_right<|Du @Br.{0}<|Du @CK.{0}<|Du @BV.{0}<|Du @C1.{0}<|Du @B5.{0}<|Du @BF.{0}<|Du @Ca.{0}<|Du @BO.{0}<|Du @Bx.{0}<|Du @List.drop_nil.{0}<|Du @List.take_nil.{0}<|Du @B8.{0}<|Du @BA.{0}<|Du @List.set_cons_zero.{0}<|Du @C3.{0}<|Du @BE<|Du @Do<|Du @decide_true<|Du @decide_false<|Du @Bool.and_true<|Du @CY<|Du @Bool.and_false<|Du @Bool.false_and<|Du @Bool.not_true<|Du @Bool.not_false<| @A9
def sy:=Du @sy0<|Du @sy1<|Du @sy2<|Du @sy3<| @syL
end Go.Proofs.YtemmgalfdmnkoaaGreatDoor
